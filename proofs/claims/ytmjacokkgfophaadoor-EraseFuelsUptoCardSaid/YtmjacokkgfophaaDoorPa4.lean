/- Part 4 of the proof of the card of EraseFuels, second form: no statement of its own; no conditions. -/
import Derived.Test.YtmjacokkgfophaaDoorPa3
set_option linter.unusedSimpArgs false
set_option linter.unusedVariables false
set_option linter.defProp false
section
/- Codes that have their form; shapes; sizes. -/
namespace Go.Proofs.YtmjacokkgfophaaDoor.Am
open Go
/-- A shape, and what stands behind it. -/
inductive One : ByteArray → ByteArray → Prop
  | end_ {s : ByteArray} {b : UInt8} : s[0]? = some b → (b = 46 ∨ b = 114) → One s (s.extract 1 s.size)
  | fn {s r : ByteArray} : s[0]? = some 102 → One (s.extract 1 s.size) r → One s r
  | pair {s r r' : ByteArray} : s[0]? = some 112 → One (s.extract 1 s.size) r → One r r' → One s r'
theorem size_of_get {s : ByteArray} {b : UInt8} (h : s[0]? = some b) : 0 < s.size := by
  rcases Nat.eq_zero_or_pos s.size with h0 | h0
  · rw [getElem?_neg s 0 (by omega)] at h; cases h
  · exact h0
theorem One.lt {s r : ByteArray} (h : One s r) : r.size < s.size := by
  induction h with
  | end_ h _ => have := size_of_get h; simp; omega
  | fn h _ ih => have := size_of_get h; simp at ih; omega
  | pair h _ _ ih1 ih2 => have := size_of_get h; simp at ih1; omega
section
variable (ext : Ext)
/-- A text is a list of so many shapes. -/
def Shp (s : ByteArray) (n : Nat) : Prop := ∃ l : List ByteArray, run Tryd.prog ext (.call 46 [sV s, sV semi] []) = some (.ret [.c (.d (listS false l))] []) ∧ l.length = n ∧ ∀ t ∈ l, t.size ≤ s.size ∧ ∃ r, One t r
structure OkN (x : Cd) : Prop where
  lam : x.op = 2 → x.l.length = 1
  app : x.op = 3 → x.l.length = 2
  pair : x.op = 4 → x.l.length = 2
  fst : x.op = 5 → x.l.length = 1
  snd : x.op = 6 → x.l.length = 1
  con : x.op = 8 → x.l.length = 1 ∧ 0 ≤ x.n
  case : x.op = 9 → 1 ≤ x.l.length
  fix : x.op = 11 → 1 ≤ x.l.length ∧ (x.l.length = 1 ∨ Shp ext x.s (x.l.length - 1))
  str : x.s.size ≤ 1048576
inductive WF : Cd → Prop
  | mk {x : Cd} : OkN ext x → (∀ y ∈ x.l, WF y) → WF x
variable {ext}
theorem WF.ok {x : Cd} (h : WF ext x) : OkN ext x := by cases h; assumption
theorem WF.part {x y : Cd} (h : WF ext x) (hy : y ∈ x.l) : WF ext y := by cases h with | mk _ h => exact h y hy
theorem WF.box : WF ext (.mk 7 0 ⟨#[]⟩ [] true) := by
  refine .mk ⟨?_, ?_, ?_, ?_, ?_, ?_, ?_, ?_, ?_⟩ ?_ <;> simp [Cd.op, Cd.l, Cd.s, ByteArray.size]
theorem WF.var (n : Int) (z : Bool) : WF ext (.mk 1 n ⟨#[]⟩ [] z) := by
  refine .mk ⟨?_, ?_, ?_, ?_, ?_, ?_, ?_, ?_, ?_⟩ ?_ <;> simp [Cd.op, Cd.l, Cd.s, ByteArray.size]
theorem WF.app2 {a b : Cd} (ha : WF ext a) (hb : WF ext b) (z : Bool) : WF ext (.mk 3 0 ⟨#[]⟩ [a, b] z) := by
  refine .mk ⟨?_, ?_, ?_, ?_, ?_, ?_, ?_, ?_, ?_⟩ ?_ <;> simp [Cd.op, Cd.l, Cd.s, ByteArray.size, ha, hb]
theorem WF.pair2 {a b : Cd} (ha : WF ext a) (hb : WF ext b) (z : Bool) : WF ext (.mk 4 0 ⟨#[]⟩ [a, b] z) := by
  refine .mk ⟨?_, ?_, ?_, ?_, ?_, ?_, ?_, ?_, ?_⟩ ?_ <;> simp [Cd.op, Cd.l, Cd.s, ByteArray.size, ha, hb]
theorem WF.lam1 {a : Cd} (ha : WF ext a) (z : Bool) : WF ext (.mk 2 0 ⟨#[]⟩ [a] z) := by
  refine .mk ⟨?_, ?_, ?_, ?_, ?_, ?_, ?_, ?_, ?_⟩ ?_ <;> simp [Cd.op, Cd.l, Cd.s, ByteArray.size, ha]
theorem WF.fst1 {a : Cd} (ha : WF ext a) (z : Bool) : WF ext (.mk 5 0 ⟨#[]⟩ [a] z) := by
  refine .mk ⟨?_, ?_, ?_, ?_, ?_, ?_, ?_, ?_, ?_⟩ ?_ <;> simp [Cd.op, Cd.l, Cd.s, ByteArray.size, ha]
theorem WF.snd1 {a : Cd} (ha : WF ext a) (z : Bool) : WF ext (.mk 6 0 ⟨#[]⟩ [a] z) := by
  refine .mk ⟨?_, ?_, ?_, ?_, ?_, ?_, ?_, ?_, ?_⟩ ?_ <;> simp [Cd.op, Cd.l, Cd.s, ByteArray.size, ha]
/-- A code with other parts, as many. -/
theorem WF.with {x : Cd} {l : List Cd} {z : Bool} (h : WF ext x) (hl : l.length = x.l.length) (hw : ∀ y ∈ l, WF ext y) : WF ext (.mk x.op x.n x.s l z) := by
  obtain ⟨h1, h2, h3, h4, h5, h6, h7, h8, h9⟩ := h.ok
  refine .mk ⟨?_, ?_, ?_, ?_, ?_, ?_, ?_, ?_, ?_⟩ hw <;> simp only [Cd.op, Cd.l, Cd.s, Cd.n, hl] <;> assumption
theorem WF.same {x : Cd} {n : Int} {z : Bool} (h : WF ext x) (h1 : x.op = 1) : WF ext (.mk x.op n x.s x.l z) := by
  have h9 := h.ok.str
  have e : (Cd.mk x.op n x.s x.l z).op = 1 := h1
  exact .mk ⟨by rw [e]; simp, by rw [e]; simp, by rw [e]; simp, by rw [e]; simp, by rw [e]; simp, by rw [e]; simp, by rw [e]; simp, by rw [e]; simp, h9⟩ (fun y hy => h.part hy)
theorem WF.shift : ∀ (n : Nat) (x : Cd) (b f : Int), x.size ≤ n → WF ext x → WF ext (x.shift b f)
  | 0, x, b, f, hn, _ => by have := x.size_pos; omega
  | n + 1, x, b, f, hn, h => by
    rw [Cd.shift_eq]
    split
    · rename_i h1; exact h.same h1
    · refine h.with (by simp) fun y hy => ?_
      obtain ⟨y', h1, rfl⟩ := List.mem_map.1 hy
      exact WF.shift n y' _ _ (by have := Cd.size_lt h1; omega) (h.part h1)
theorem WF.subst {b : Cd} (hb : WF ext b) : ∀ (n : Nat) (x : Cd) (f : Int), x.size ≤ n → WF ext x → WF ext (Cd.subst b x f)
  | 0, x, f, hn, _ => by have := x.size_pos; omega
  | n + 1, x, f, hn, h => by
    rw [Cd.subst_eq]
    split
    · rename_i h1
      split
      · exact WF.shift b.size b _ _ (Nat.le_refl _) hb
      · exact h.same h1
    · refine h.with (by simp) fun y hy => ?_
      obtain ⟨y', h1, rfl⟩ := List.mem_map.1 hy
      exact WF.subst hb n y' _ (by have := Cd.size_lt h1; omega) (h.part h1)
end
theorem sum_map_congr {l : List Cd} {f g : Cd → Nat} (h : ∀ x ∈ l, f x = g x) : (l.map f).sum = (l.map g).sum := by
  rw [List.map_congr_left h]
theorem sum_map_le {l : List Cd} {f g : Cd → Nat} (h : ∀ x ∈ l, f x ≤ g x) : (l.map f).sum ≤ (l.map g).sum := by
  induction l with
  | nil => simp
  | cons a r ih =>
    simp only [List.map_cons, List.sum_cons]
    have := h a List.mem_cons_self
    have := ih fun x hx => h x (List.mem_cons_of_mem _ hx)
    omega
theorem sum_map_mul (l : List Cd) (f : Cd → Nat) (k : Nat) : (l.map fun x => f x * k).sum = (l.map f).sum * k := by
  induction l with
  | nil => simp
  | cons a r ih => simp only [List.map_cons, List.sum_cons, ih, Nat.add_mul]
theorem size_mk (a b : Int) (s : ByteArray) (l : List Cd) (z : Bool) : (Cd.mk a b s l z).size = 1 + (l.map Cd.size).sum := Cd.size_eq _
theorem size_shift : ∀ (n : Nat) (x : Cd) (b f : Int), x.size ≤ n → (x.shift b f).size = x.size
  | 0, x, b, f, hn => by have := x.size_pos; omega
  | n + 1, x, b, f, hn => by
    rw [Cd.shift_eq]
    split
    · rw [size_mk, x.size_eq]
    · rw [size_mk, x.size_eq, List.map_map]
      congr 1
      exact sum_map_congr fun y hy => size_shift n y _ _ (by have := Cd.size_lt hy; omega)
theorem size_subst (b : Cd) : ∀ (n : Nat) (x : Cd) (f : Int), x.size ≤ n → (Cd.subst b x f).size ≤ x.size * b.size
  | 0, x, f, hn => by have := x.size_pos; omega
  | n + 1, x, f, hn => by
    have hb := b.size_pos
    rw [Cd.subst_eq]
    split
    · split
      · rw [size_shift b.size b _ _ (Nat.le_refl _)]
        exact Nat.le_mul_of_pos_left _ x.size_pos
      · rw [size_mk, ← x.size_eq]
        exact Nat.le_mul_of_pos_right _ hb
    · rw [size_mk, x.size_eq, List.map_map, Nat.add_mul, Nat.one_mul, ← sum_map_mul]
      have : (x.l.map (Cd.size ∘ fun y => Cd.subst b y (if x.op = 2 then wr (f + 1) else f))).sum ≤ (x.l.map fun y => y.size * b.size).sum :=
        sum_map_le fun y hy => size_subst b n y _ (by have := Cd.size_lt hy; omega)
      omega
end Go.Proofs.YtmjacokkgfophaaDoor.Am
end
section
/- one: a shape, and what stands behind it; shapes. -/
namespace Go.Proofs.YtmjacokkgfophaaDoor.Am
open Go
variable (ext : Ext)
set_option maxHeartbeats 4000000
theorem callOut_sb (slot : Nat) (s : ByteArray) (b : Bool) : callOut [] [] slot (some (.ret [.c (.d (.v (.string s))), .c (.d (.v (.bool b)))] [])) = some { res := .val (.tup [(false, [.d (.v (.string s))]), (false, [.d (.v (.bool b))])]), upd := [], rd := [] } := id rfl
theorem empty70 (hx : ext 70 = none) (s : ByteArray) (h : s.toList == (⟨#[]⟩ : ByteArray).toList) : run Tryd.prog ext (.call 70 [sV s] []) = some (.ret [sV ⟨#[]⟩, bV false] []) := by
  (rw [run_eq]; simp only [stepA, hx, Tryd.func70, Tryd.f70]; simp only [List.length_cons, List.length_nil, Nat.reduceAdd, Nat.reduceLeDiff, Nat.zero_le, ↓reduceIte, List.zipIdx_cons, List.zipIdx_nil, List.map_cons, List.map_nil])
  simp only [sV, bV]
  simp only [zS, wantedA, opA, eff, boxA, cells, ev, gt, pt, putO, updO, setO, okC, loadA, cutC, fieldAddrA, fieldA, indexAddrA, indexA, builtinA, callOpA, callV, target, ptrV, lenS, binA, intOp, strOp, unA, num, lk, over, allocA, pickA, buildA, fillA, convertA, extractA, ofComp, nilCheckA, makeFuncA, ptrs, ofValue, cellB, Nat.reduceAdd, Nat.reduceSub, Nat.reduceMul, Nat.reduceLT, Nat.reduceLeDiff, Nat.reduceGT, ↓reduceIte, Nat.reduceEqDiff, Nat.reduceBEq, reduceCtorEq, Int.reduceBEq, Int.reduceBNe, Int.reduceLT, Int.reduceLE, Int.reduceGT, Int.reduceGE, aggT_9, sizeT_9, bytesT_9, und_9, zero1_9, zeroT_9, aggT_3, sizeT_3, bytesT_3, und_3, zero1_3, zeroT_3, aggT_4, sizeT_4, bytesT_4, und_4, zero1_4, zeroT_4, aggT_5, sizeT_5, bytesT_5, und_5, zero1_5, zeroT_5, h]
  (refine Eq.trans ?_ rfl; kernel_rfl)
theorem leaf70 (hx : ext 70 = none) (s : ByteArray) (b : UInt8) (h : (s.toList == (⟨#[]⟩ : ByteArray).toList) = false) (hb : s[(0 : Int).toNat]? = some b) (h1 : b = 46 ∨ b = 114) (c1 : (1 : Int) ≤ s.size) : run Tryd.prog ext (.call 70 [sV s] []) = some (.ret [sV (s.extract (1 : Int).toNat s.size), bV true] []) := by
  (rw [run_eq]; simp only [stepA, hx, Tryd.func70, Tryd.f70]; simp only [List.length_cons, List.length_nil, Nat.reduceAdd, Nat.reduceLeDiff, Nat.zero_le, ↓reduceIte, List.zipIdx_cons, List.zipIdx_nil, List.map_cons, List.map_nil])
  simp only [sV, bV]
  have z0 : (0 : Int) ≤ 0 := Int.le_refl _
  have z1 : (0 : Int) ≤ 1 := by decide
  rcases h1 with rfl | rfl
  · have e1 : (((46 : UInt8).toNat : Int) == 46) = true := by decide
    simp only [zS, wantedA, opA, eff, boxA, cells, ev, gt, pt, putO, updO, setO, okC, loadA, cutC, fieldAddrA, fieldA, indexAddrA, indexA, builtinA, callOpA, callV, target, ptrV, lenS, binA, intOp, strOp, unA, num, lk, over, allocA, pickA, buildA, fillA, convertA, extractA, ofComp, nilCheckA, makeFuncA, ptrs, ofValue, cellB, Nat.reduceAdd, Nat.reduceSub, Nat.reduceMul, Nat.reduceLT, Nat.reduceLeDiff, Nat.reduceGT, ↓reduceIte, Nat.reduceEqDiff, Nat.reduceBEq, reduceCtorEq, Int.reduceBEq, Int.reduceBNe, Int.reduceLT, Int.reduceLE, Int.reduceGT, Int.reduceGE, aggT_9, sizeT_9, bytesT_9, und_9, zero1_9, zeroT_9, aggT_3, sizeT_3, bytesT_3, und_3, zero1_3, zeroT_3, aggT_4, sizeT_4, bytesT_4, und_4, zero1_4, zeroT_4, aggT_5, sizeT_5, bytesT_5, und_5, zero1_5, zeroT_5, h, hb, e1, sliceA, bound, c1, z0, z1, Option.map_none]
    (refine Eq.trans ?_ rfl; kernel_rfl)
  · have e1 : (((114 : UInt8).toNat : Int) == 46) = false := by decide
    have e2 : (((114 : UInt8).toNat : Int) == 114) = true := by decide
    simp only [zS, wantedA, opA, eff, boxA, cells, ev, gt, pt, putO, updO, setO, okC, loadA, cutC, fieldAddrA, fieldA, indexAddrA, indexA, builtinA, callOpA, callV, target, ptrV, lenS, binA, intOp, strOp, unA, num, lk, over, allocA, pickA, buildA, fillA, convertA, extractA, ofComp, nilCheckA, makeFuncA, ptrs, ofValue, cellB, Nat.reduceAdd, Nat.reduceSub, Nat.reduceMul, Nat.reduceLT, Nat.reduceLeDiff, Nat.reduceGT, ↓reduceIte, Nat.reduceEqDiff, Nat.reduceBEq, reduceCtorEq, Int.reduceBEq, Int.reduceBNe, Int.reduceLT, Int.reduceLE, Int.reduceGT, Int.reduceGE, aggT_9, sizeT_9, bytesT_9, und_9, zero1_9, zeroT_9, aggT_3, sizeT_3, bytesT_3, und_3, zero1_3, zeroT_3, aggT_4, sizeT_4, bytesT_4, und_4, zero1_4, zeroT_4, aggT_5, sizeT_5, bytesT_5, und_5, zero1_5, zeroT_5, h, hb, e1, e2, sliceA, bound, c1, z0, z1, Option.map_none]
    (refine Eq.trans ?_ rfl; kernel_rfl)
theorem fn70 (hx : ext 70 = none) (s r : ByteArray) (c : Bool) (h : (s.toList == (⟨#[]⟩ : ByteArray).toList) = false) (hb : s[(0 : Int).toNat]? = some 102) (c1 : (1 : Int) ≤ s.size) (hr : run Tryd.prog ext (.call 70 [sV (s.extract (1 : Int).toNat s.size)] []) = some (.ret [sV r, bV c] [])) : run Tryd.prog ext (.call 70 [sV s] []) = some (.ret [sV r, bV c] []) := by
  (rw [run_eq]; simp only [stepA, hx, Tryd.func70, Tryd.f70]; simp only [List.length_cons, List.length_nil, Nat.reduceAdd, Nat.reduceLeDiff, Nat.zero_le, ↓reduceIte, List.zipIdx_cons, List.zipIdx_nil, List.map_cons, List.map_nil])
  simp only [sV, bV] at hr ⊢
  have z0 : (0 : Int) ≤ 0 := Int.le_refl _
  have z1 : (0 : Int) ≤ 1 := by decide
  have e1 : (((102 : UInt8).toNat : Int) == 46) = false := by decide
  have e2 : (((102 : UInt8).toNat : Int) == 114) = false := by decide
  have e3 : (((102 : UInt8).toNat : Int) == 102) = true := by decide
  simp only [zS, wantedA, opA, eff, boxA, cells, ev, gt, pt, putO, updO, setO, okC, loadA, cutC, fieldAddrA, fieldA, indexAddrA, indexA, builtinA, callOpA, callV, target, ptrV, lenS, binA, intOp, strOp, unA, num, lk, over, allocA, pickA, buildA, fillA, convertA, extractA, ofComp, nilCheckA, makeFuncA, ptrs, ofValue, cellB, Nat.reduceAdd, Nat.reduceSub, Nat.reduceMul, Nat.reduceLT, Nat.reduceLeDiff, Nat.reduceGT, ↓reduceIte, Nat.reduceEqDiff, Nat.reduceBEq, reduceCtorEq, Int.reduceBEq, Int.reduceBNe, Int.reduceLT, Int.reduceLE, Int.reduceGT, Int.reduceGE, aggT_9, sizeT_9, bytesT_9, und_9, zero1_9, zeroT_9, aggT_3, sizeT_3, bytesT_3, und_3, zero1_3, zeroT_3, aggT_4, sizeT_4, bytesT_4, und_4, zero1_4, zeroT_4, aggT_5, sizeT_5, bytesT_5, und_5, zero1_5, zeroT_5, h, hb, e1, e2, e3, sliceA, bound, c1, z0, z1, Option.map_none, hr, callOut_sb]
  (refine Eq.trans ?_ rfl; kernel_rfl)
theorem bad70 (hx : ext 70 = none) (s r : ByteArray) (h : (s.toList == (⟨#[]⟩ : ByteArray).toList) = false) (hb : s[(0 : Int).toNat]? = some 112) (c1 : (1 : Int) ≤ s.size) (hr : run Tryd.prog ext (.call 70 [sV (s.extract (1 : Int).toNat s.size)] []) = some (.ret [sV r, bV false] [])) : run Tryd.prog ext (.call 70 [sV s] []) = some (.ret [sV ⟨#[]⟩, bV false] []) := by
  (rw [run_eq]; simp only [stepA, hx, Tryd.func70, Tryd.f70]; simp only [List.length_cons, List.length_nil, Nat.reduceAdd, Nat.reduceLeDiff, Nat.zero_le, ↓reduceIte, List.zipIdx_cons, List.zipIdx_nil, List.map_cons, List.map_nil])
  simp only [sV, bV] at hr ⊢
  have z0 : (0 : Int) ≤ 0 := Int.le_refl _
  have z1 : (0 : Int) ≤ 1 := by decide
  have e1 : (((112 : UInt8).toNat : Int) == 46) = false := by decide
  have e2 : (((112 : UInt8).toNat : Int) == 114) = false := by decide
  have e3 : (((112 : UInt8).toNat : Int) == 102) = false := by decide
  have e4 : (((112 : UInt8).toNat : Int) == 112) = true := by decide
  simp only [zS, wantedA, opA, eff, boxA, cells, ev, gt, pt, putO, updO, setO, okC, loadA, cutC, fieldAddrA, fieldA, indexAddrA, indexA, builtinA, callOpA, callV, target, ptrV, lenS, binA, intOp, strOp, unA, num, lk, over, allocA, pickA, buildA, fillA, convertA, extractA, ofComp, nilCheckA, makeFuncA, ptrs, ofValue, cellB, Nat.reduceAdd, Nat.reduceSub, Nat.reduceMul, Nat.reduceLT, Nat.reduceLeDiff, Nat.reduceGT, ↓reduceIte, Nat.reduceEqDiff, Nat.reduceBEq, reduceCtorEq, Int.reduceBEq, Int.reduceBNe, Int.reduceLT, Int.reduceLE, Int.reduceGT, Int.reduceGE, aggT_9, sizeT_9, bytesT_9, und_9, zero1_9, zeroT_9, aggT_3, sizeT_3, bytesT_3, und_3, zero1_3, zeroT_3, aggT_4, sizeT_4, bytesT_4, und_4, zero1_4, zeroT_4, aggT_5, sizeT_5, bytesT_5, und_5, zero1_5, zeroT_5, h, hb, e1, e2, e3, e4, sliceA, bound, c1, z0, z1, Option.map_none, hr, callOut_sb]
  (refine Eq.trans ?_ rfl; kernel_rfl)
theorem pair70 (hx : ext 70 = none) (s r r' : ByteArray) (c : Bool) (h : (s.toList == (⟨#[]⟩ : ByteArray).toList) = false) (hb : s[(0 : Int).toNat]? = some 112) (c1 : (1 : Int) ≤ s.size) (hr : run Tryd.prog ext (.call 70 [sV (s.extract (1 : Int).toNat s.size)] []) = some (.ret [sV r, bV true] [])) (hr2 : run Tryd.prog ext (.call 70 [sV r] []) = some (.ret [sV r', bV c] [])) : run Tryd.prog ext (.call 70 [sV s] []) = some (.ret [sV r', bV c] []) := by
  (rw [run_eq]; simp only [stepA, hx, Tryd.func70, Tryd.f70]; simp only [List.length_cons, List.length_nil, Nat.reduceAdd, Nat.reduceLeDiff, Nat.zero_le, ↓reduceIte, List.zipIdx_cons, List.zipIdx_nil, List.map_cons, List.map_nil])
  simp only [sV, bV] at hr hr2 ⊢
  have z0 : (0 : Int) ≤ 0 := Int.le_refl _
  have z1 : (0 : Int) ≤ 1 := by decide
  have e1 : (((112 : UInt8).toNat : Int) == 46) = false := by decide
  have e2 : (((112 : UInt8).toNat : Int) == 114) = false := by decide
  have e3 : (((112 : UInt8).toNat : Int) == 102) = false := by decide
  have e4 : (((112 : UInt8).toNat : Int) == 112) = true := by decide
  simp only [zS, wantedA, opA, eff, boxA, cells, ev, gt, pt, putO, updO, setO, okC, loadA, cutC, fieldAddrA, fieldA, indexAddrA, indexA, builtinA, callOpA, callV, target, ptrV, lenS, binA, intOp, strOp, unA, num, lk, over, allocA, pickA, buildA, fillA, convertA, extractA, ofComp, nilCheckA, makeFuncA, ptrs, ofValue, cellB, Nat.reduceAdd, Nat.reduceSub, Nat.reduceMul, Nat.reduceLT, Nat.reduceLeDiff, Nat.reduceGT, ↓reduceIte, Nat.reduceEqDiff, Nat.reduceBEq, reduceCtorEq, Int.reduceBEq, Int.reduceBNe, Int.reduceLT, Int.reduceLE, Int.reduceGT, Int.reduceGE, aggT_9, sizeT_9, bytesT_9, und_9, zero1_9, zeroT_9, aggT_3, sizeT_3, bytesT_3, und_3, zero1_3, zeroT_3, aggT_4, sizeT_4, bytesT_4, und_4, zero1_4, zeroT_4, aggT_5, sizeT_5, bytesT_5, und_5, zero1_5, zeroT_5, h, hb, e1, e2, e3, e4, sliceA, bound, c1, z0, z1, Option.map_none, hr, hr2, callOut_sb]
  (refine Eq.trans ?_ rfl; kernel_rfl)
theorem none70 (hx : ext 70 = none) (s : ByteArray) (b : UInt8) (h : (s.toList == (⟨#[]⟩ : ByteArray).toList) = false) (hb : s[(0 : Int).toNat]? = some b) (h1 : ¬ (b.toNat : Int) = 46) (h2 : ¬ (b.toNat : Int) = 114) (h3 : ¬ (b.toNat : Int) = 102) (h4 : ¬ (b.toNat : Int) = 112) : run Tryd.prog ext (.call 70 [sV s] []) = some (.ret [sV ⟨#[]⟩, bV false] []) := by
  (rw [run_eq]; simp only [stepA, hx, Tryd.func70, Tryd.f70]; simp only [List.length_cons, List.length_nil, Nat.reduceAdd, Nat.reduceLeDiff, Nat.zero_le, ↓reduceIte, List.zipIdx_cons, List.zipIdx_nil, List.map_cons, List.map_nil])
  simp only [sV, bV]
  have z0 : (0 : Int) ≤ 0 := Int.le_refl _
  simp only [zS, wantedA, opA, eff, boxA, cells, ev, gt, pt, putO, updO, setO, okC, loadA, cutC, fieldAddrA, fieldA, indexAddrA, indexA, builtinA, callOpA, callV, target, ptrV, lenS, binA, intOp, strOp, unA, num, lk, over, allocA, pickA, buildA, fillA, convertA, extractA, ofComp, nilCheckA, makeFuncA, ptrs, ofValue, cellB, Nat.reduceAdd, Nat.reduceSub, Nat.reduceMul, Nat.reduceLT, Nat.reduceLeDiff, Nat.reduceGT, ↓reduceIte, Nat.reduceEqDiff, Nat.reduceBEq, reduceCtorEq, Int.reduceBEq, Int.reduceBNe, Int.reduceLT, Int.reduceLE, Int.reduceGT, Int.reduceGE, aggT_9, sizeT_9, bytesT_9, und_9, zero1_9, zeroT_9, aggT_3, sizeT_3, bytesT_3, und_3, zero1_3, zeroT_3, aggT_4, sizeT_4, bytesT_4, und_4, zero1_4, zeroT_4, aggT_5, sizeT_5, bytesT_5, und_5, zero1_5, zeroT_5, h, hb, h1, h2, h3, h4, z0]
  (refine Eq.trans ?_ rfl; kernel_rfl)
theorem toList_nil {s : ByteArray} : (s.toList == (⟨#[]⟩ : ByteArray).toList) = (s.size == 0) := by
  rw [Bool.eq_iff_iff]
  simp only [beq_iff_eq, ByteArray.toList_eq]
  constructor
  · intro h; show s.data.size = 0; rw [← Array.length_toList, h]; rfl
  · intro h
    cases s with
    | mk d => simp only [ByteArray.size] at h; have : d = #[] := Array.eq_empty_of_size_eq_zero h; rw [this]
theorem one70 (hx : ext 70 = none) : ∀ (n : Nat) (s : ByteArray), s.size ≤ n → n < 2 ^ 60 → ∃ r b, run Tryd.prog ext (.call 70 [sV s] []) = some (.ret [sV r, bV b] []) ∧ r.size ≤ s.size ∧ (b = true → One s r)
  | n, s, hs, hn => by
    by_cases h0 : s.size = 0
    · exact ⟨_, _, empty70 ext hx s (by rw [toList_nil]; simp [h0]), Nat.zero_le _, fun h => by cases h⟩
    have hne : (s.toList == (⟨#[]⟩ : ByteArray).toList) = false := by rw [toList_nil]; simp [h0]
    have hb : s[(0 : Int).toNat]? = some s[0] := by simp [getElem?_pos s 0 (by omega)]
    have hb' : s[0]? = some s[0] := hb
    have c1 : (1 : Int) ≤ s.size := by omega
    have e1 : (1 : Int).toNat = 1 := rfl
    cases n with
    | zero => omega
    | succ n =>
    by_cases h1 : s[0] = 46 ∨ s[0] = 114
    · exact ⟨_, _, leaf70 ext hx s _ hne hb h1 c1, by simp [e1], fun _ => by rw [e1]; exact One.end_ hb' h1⟩
    obtain ⟨r, b, g1, g2, g3⟩ := one70 hx n (s.extract (1 : Int).toNat s.size) (by simp [e1]; omega) (by omega)
    have g2' : r.size + 1 ≤ s.size := by simp [e1] at g2; omega
    by_cases h2 : s[0] = 102
    · rw [h2] at hb hb'
      exact ⟨r, b, fn70 ext hx s r b hne hb c1 g1, by omega, fun h => .fn hb' (g3 h)⟩
    by_cases h3 : s[0] = 112
    · rw [h3] at hb hb'
      cases b with
      | false => exact ⟨_, _, bad70 ext hx s r hne hb c1 g1, Nat.zero_le _, fun h => by cases h⟩
      | true =>
        obtain ⟨r', b', k1, k2, k3⟩ := one70 hx n r (by omega) (by omega)
        exact ⟨r', b', pair70 ext hx s r r' b' hne hb c1 g1 k1, by omega, fun h => .pair hb' (g3 rfl) (k3 h)⟩
    · have key : ∀ c : UInt8, s[0] ≠ c → ¬ ((s[0]).toNat : Int) = c.toNat := fun c hc h => hc (UInt8.toNat_inj.1 (by omega))
      exact ⟨_, _, none70 ext hx s _ hne hb (key 46 (fun h => h1 (.inl h))) (key 114 (fun h => h1 (.inr h))) (key 102 h2) (key 112 h3), Nat.zero_le _, fun h => by cases h⟩
end Go.Proofs.YtmjacokkgfophaaDoor.Am
end
section
/- shapes: a list of so many shapes. -/
namespace Go.Proofs.YtmjacokkgfophaaDoor.Am
open Go
variable (ext : Ext)
set_option maxHeartbeats 4000000
theorem clo69 (hx : ext 69 = none) (h70 : ext 70 = none) (s : ByteArray) (hs : s.size < 2 ^ 60) : ∃ b, run Tryd.prog ext (.call 69 [sV s] []) = some (.ret [bV b] []) ∧ (b = false → ∃ r, One s r) := by
  obtain ⟨r, c, g1, g2, g3⟩ := one70 ext h70 s.size s (Nat.le_refl _) hs
  cases c with
  | false =>
    refine ⟨true, ?_, fun h => by cases h⟩
    (rw [run_eq]; simp only [stepA, hx, Tryd.func69, Tryd.f69]; simp only [List.length_cons, List.length_nil, Nat.reduceAdd, Nat.reduceLeDiff, Nat.zero_le, ↓reduceIte, List.zipIdx_cons, List.zipIdx_nil, List.map_cons, List.map_nil])
    simp only [sV, bV] at g1 ⊢
    simp only [zS, wantedA, opA, eff, boxA, cells, ev, gt, pt, putO, updO, setO, okC, loadA, cutC, fieldAddrA, fieldA, indexAddrA, indexA, builtinA, callOpA, callV, target, ptrV, lenS, binA, intOp, strOp, unA, num, lk, over, allocA, pickA, buildA, fillA, convertA, extractA, ofComp, nilCheckA, makeFuncA, ptrs, ofValue, cellB, Nat.reduceAdd, Nat.reduceSub, Nat.reduceMul, Nat.reduceLT, Nat.reduceLeDiff, Nat.reduceGT, ↓reduceIte, Nat.reduceEqDiff, Nat.reduceBEq, reduceCtorEq, Int.reduceBEq, Int.reduceBNe, Int.reduceLT, Int.reduceLE, Int.reduceGT, Int.reduceGE, aggT_9, sizeT_9, bytesT_9, und_9, zero1_9, zeroT_9, aggT_4, sizeT_4, bytesT_4, und_4, zero1_4, zeroT_4, callOut_sb, g1]
    (refine Eq.trans ?_ rfl; kernel_rfl)
  | true =>
    cases h0 : (r.toList == (⟨#[]⟩ : ByteArray).toList) with
    | true =>
      refine ⟨false, ?_, fun _ => ⟨r, g3 rfl⟩⟩
      (rw [run_eq]; simp only [stepA, hx, Tryd.func69, Tryd.f69]; simp only [List.length_cons, List.length_nil, Nat.reduceAdd, Nat.reduceLeDiff, Nat.zero_le, ↓reduceIte, List.zipIdx_cons, List.zipIdx_nil, List.map_cons, List.map_nil])
      simp only [sV, bV] at g1 ⊢
      simp only [zS, wantedA, opA, eff, boxA, cells, ev, gt, pt, putO, updO, setO, okC, loadA, cutC, fieldAddrA, fieldA, indexAddrA, indexA, builtinA, callOpA, callV, target, ptrV, lenS, binA, intOp, strOp, unA, num, lk, over, allocA, pickA, buildA, fillA, convertA, extractA, ofComp, nilCheckA, makeFuncA, ptrs, ofValue, cellB, Nat.reduceAdd, Nat.reduceSub, Nat.reduceMul, Nat.reduceLT, Nat.reduceLeDiff, Nat.reduceGT, ↓reduceIte, Nat.reduceEqDiff, Nat.reduceBEq, reduceCtorEq, Int.reduceBEq, Int.reduceBNe, Int.reduceLT, Int.reduceLE, Int.reduceGT, Int.reduceGE, aggT_9, sizeT_9, bytesT_9, und_9, zero1_9, zeroT_9, aggT_4, sizeT_4, bytesT_4, und_4, zero1_4, zeroT_4, callOut_sb, g1, h0]
      (refine Eq.trans ?_ rfl; kernel_rfl)
    | false =>
      refine ⟨true, ?_, fun h => by cases h⟩
      (rw [run_eq]; simp only [stepA, hx, Tryd.func69, Tryd.f69]; simp only [List.length_cons, List.length_nil, Nat.reduceAdd, Nat.reduceLeDiff, Nat.zero_le, ↓reduceIte, List.zipIdx_cons, List.zipIdx_nil, List.map_cons, List.map_nil])
      simp only [sV, bV] at g1 ⊢
      simp only [zS, wantedA, opA, eff, boxA, cells, ev, gt, pt, putO, updO, setO, okC, loadA, cutC, fieldAddrA, fieldA, indexAddrA, indexA, builtinA, callOpA, callV, target, ptrV, lenS, binA, intOp, strOp, unA, num, lk, over, allocA, pickA, buildA, fillA, convertA, extractA, ofComp, nilCheckA, makeFuncA, ptrs, ofValue, cellB, Nat.reduceAdd, Nat.reduceSub, Nat.reduceMul, Nat.reduceLT, Nat.reduceLeDiff, Nat.reduceGT, ↓reduceIte, Nat.reduceEqDiff, Nat.reduceBEq, reduceCtorEq, Int.reduceBEq, Int.reduceBNe, Int.reduceLT, Int.reduceLE, Int.reduceGT, Int.reduceGE, aggT_9, sizeT_9, bytesT_9, und_9, zero1_9, zeroT_9, aggT_4, sizeT_4, bytesT_4, und_4, zero1_4, zeroT_4, callOut_sb, g1, h0]
      (refine Eq.trans ?_ rfl; kernel_rfl)
noncomputable def B77 : Code := (Tryd.f77.body.getD .skip)
noncomputable def L77 : Code := sub B77 [1, 0, 1, 0, 0]
noncomputable def K77 : List It := [.inBlock 0, .code (sub B77 [1, 1])]
def E77 (l : List ByteArray) (b : Int) : Env := [(0, .c (.d (listS false l))), (1, .c (.fn 69 [] [])), (7, iV l.length), (8, iV b)]
theorem enter77 (hx : ext 77 = none) (l : List ByteArray) (out : Option Out)
   (h : run Tryd.prog ext (.k ⟨19, 0, [.tmp 4]⟩ (.code L77 :: .inLoop L77 :: K77) (E77 l 0) []) = out) :
   run Tryd.prog ext (.call 77 [.c (.d (listS false l)), .c (.fn 69 [] [])] []) = out := by
  (rw [run_eq]; simp only [stepA, hx, Tryd.func77, Tryd.f77]; simp only [List.length_cons, List.length_nil, Nat.reduceAdd, Nat.reduceLeDiff, Nat.zero_le, ↓reduceIte, List.zipIdx_cons, List.zipIdx_nil, List.map_cons, List.map_nil])
  simp only [zS, wantedA, opA, eff, boxA, cells, ev, gt, pt, putO, updO, setO, okC, loadA, cutC, fieldAddrA, fieldA, indexAddrA, indexA, builtinA, callOpA, callV, target, ptrV, lenS, binA, intOp, strOp, unA, num, lk, over, allocA, pickA, buildA, fillA, convertA, extractA, ofComp, nilCheckA, makeFuncA, ptrs, ofValue, cellB, Nat.reduceAdd, Nat.reduceSub, Nat.reduceMul, Nat.reduceLT, Nat.reduceLeDiff, Nat.reduceGT, ↓reduceIte, Nat.reduceEqDiff, Nat.reduceBEq, reduceCtorEq, Int.reduceBEq, Int.reduceBNe, Int.reduceLT, Int.reduceLE, Int.reduceGT, Int.reduceGE, aggT_22, sizeT_22, bytesT_22, und_22, elemT_22, zero1_22, zeroT_22, aggT_9, sizeT_9, bytesT_9, und_9, zero1_9, zeroT_9, aggT_3, sizeT_3, bytesT_3, und_3, zero1_3, zeroT_3, aggT_4, sizeT_4, bytesT_4, und_4, zero1_4, zeroT_4, lenA_listS]
  refine (r_inLoop_some ?_).trans h
  kernel_rfl
theorem step77 (l : List ByteArray) (y : ByteArray) (b : Int) (c : Bool) (hi2 : b < l.length) (hi : 0 ≤ b) (hy : l[b.toNat]? = some y) (hr : run Tryd.prog ext (.call 69 [sV y] []) = some (.ret [bV c] [])) (out : Option Out)
   (h : (if c then some (.ret [iV b] []) else run Tryd.prog ext (.k ⟨19, 0, [.tmp 4]⟩ (.code L77 :: .inLoop L77 :: K77) (E77 l (wr (b + 1))) [])) = out) :
   run Tryd.prog ext (.k ⟨19, 0, [.tmp 4]⟩ (.code L77 :: .inLoop L77 :: K77) (E77 l b) []) = out := by
  rw [show (It.code L77) = It.code (sub B77 [1, 0, 1, 0, 0]) from rfl]
  simp only [E77, iV, bV, sV, listS_of_lt hi hi2] at h hr ⊢
  simp only [B77, K77, sub, Option.getD_some, Tryd.f77, ↓reduceIte, Nat.one_ne_zero]
  cases c with
  | true =>
    rw [if_pos rfl] at h
    simp only [zS, wantedA, opA, eff, boxA, cells, ev, gt, pt, putO, updO, setO, okC, loadA, cutC, fieldAddrA, fieldA, indexAddrA, indexA, builtinA, callOpA, callV, target, ptrV, lenS, binA, intOp, strOp, unA, num, lk, over, allocA, pickA, buildA, fillA, convertA, extractA, ofComp, nilCheckA, makeFuncA, ptrs, ofValue, cellB, Nat.reduceAdd, Nat.reduceSub, Nat.reduceMul, Nat.reduceLT, Nat.reduceLeDiff, Nat.reduceGT, ↓reduceIte, Nat.reduceEqDiff, Nat.reduceBEq, reduceCtorEq, Int.reduceBEq, Int.reduceBNe, Int.reduceLT, Int.reduceLE, Int.reduceGT, Int.reduceGE, aggT_22, sizeT_22, bytesT_22, und_22, elemT_22, zero1_22, zeroT_22, aggT_9, sizeT_9, bytesT_9, und_9, zero1_9, zeroT_9, aggT_3, sizeT_3, bytesT_3, und_3, zero1_3, zeroT_3, aggT_4, sizeT_4, bytesT_4, und_4, zero1_4, zeroT_4, hi, hi2, hy, hr]
    refine Eq.trans ?_ h
    kernel_rfl
  | false =>
    rw [if_neg (by decide)] at h
    simp only [zS, wantedA, opA, eff, boxA, cells, ev, gt, pt, putO, updO, setO, okC, loadA, cutC, fieldAddrA, fieldA, indexAddrA, indexA, builtinA, callOpA, callV, target, ptrV, lenS, binA, intOp, strOp, unA, num, lk, over, allocA, pickA, buildA, fillA, convertA, extractA, ofComp, nilCheckA, makeFuncA, ptrs, ofValue, cellB, Nat.reduceAdd, Nat.reduceSub, Nat.reduceMul, Nat.reduceLT, Nat.reduceLeDiff, Nat.reduceGT, ↓reduceIte, Nat.reduceEqDiff, Nat.reduceBEq, reduceCtorEq, Int.reduceBEq, Int.reduceBNe, Int.reduceLT, Int.reduceLE, Int.reduceGT, Int.reduceGE, aggT_22, sizeT_22, bytesT_22, und_22, elemT_22, zero1_22, zeroT_22, aggT_9, sizeT_9, bytesT_9, und_9, zero1_9, zeroT_9, aggT_3, sizeT_3, bytesT_3, und_3, zero1_3, zeroT_3, aggT_4, sizeT_4, bytesT_4, und_4, zero1_4, zeroT_4, hi, hi2, hy, hr]
    refine (r_inLoop_some ?_).trans h
    kernel_rfl
theorem done77 (l : List ByteArray) (b : Int) (hi2 : ¬ b < l.length) :
   run Tryd.prog ext (.k ⟨19, 0, [.tmp 4]⟩ (.code L77 :: .inLoop L77 :: K77) (E77 l b) []) = some (.ret [iV (-1)] []) := by
  rw [show (It.code L77) = It.code (sub B77 [1, 0, 1, 0, 0]) from rfl]
  simp only [E77, iV]
  simp only [B77, K77, sub, Option.getD_some, Tryd.f77, ↓reduceIte, Nat.one_ne_zero]
  simp only [zS, wantedA, opA, eff, boxA, cells, ev, gt, pt, putO, updO, setO, okC, loadA, cutC, fieldAddrA, fieldA, indexAddrA, indexA, builtinA, callOpA, callV, target, ptrV, lenS, binA, intOp, strOp, unA, num, lk, over, allocA, pickA, buildA, fillA, convertA, extractA, ofComp, nilCheckA, makeFuncA, ptrs, ofValue, cellB, Nat.reduceAdd, Nat.reduceSub, Nat.reduceMul, Nat.reduceLT, Nat.reduceLeDiff, Nat.reduceGT, ↓reduceIte, Nat.reduceEqDiff, Nat.reduceBEq, reduceCtorEq, Int.reduceBEq, Int.reduceBNe, Int.reduceLT, Int.reduceLE, Int.reduceGT, Int.reduceGE, aggT_22, sizeT_22, bytesT_22, und_22, elemT_22, zero1_22, zeroT_22, aggT_9, sizeT_9, bytesT_9, und_9, zero1_9, zeroT_9, aggT_3, sizeT_3, bytesT_3, und_3, zero1_3, zeroT_3, aggT_4, sizeT_4, bytesT_4, und_4, zero1_4, zeroT_4, hi2]
  kernel_rfl
theorem index77 (hx : ext 77 = none) (h69 : ext 69 = none) (h70 : ext 70 = none) (l : List ByteArray) (hl : l.length < 2 ^ 62) (hr : ∀ y ∈ l, y.size < 2 ^ 60) :
    ∃ i : Int, run Tryd.prog ext (.call 77 [.c (.d (listS false l)), .c (.fn 69 [] [])] []) = some (.ret [iV i] []) ∧ (i < 0 → ∀ y ∈ l, ∃ r, One y r) := by
  have key : ∀ (m k : Nat), k + m = l.length → (∀ y ∈ l.take k, ∃ r, One y r) → ∃ i : Int, run Tryd.prog ext (.k ⟨19, 0, [.tmp 4]⟩ (.code L77 :: .inLoop L77 :: K77) (E77 l k) []) = some (.ret [iV i] []) ∧ (i < 0 → ∀ y ∈ l, ∃ r, One y r) := by
    intro m
    induction m with
    | zero => intro k hk ht; exact ⟨-1, done77 ext l k (by omega), fun _ y hy => ht y (by rw [List.take_of_length_le (by omega)]; exact hy)⟩
    | succ m ih =>
      intro k hk ht
      have hlt : k < l.length := by omega
      obtain ⟨c, hc, hc2⟩ := clo69 ext h69 h70 l[k] (hr _ (List.getElem_mem hlt))
      cases c with
      | true => exact ⟨k, step77 ext l l[k] k true (by omega) (by omega) (by simp [hlt]) hc _ rfl, fun h => by omega⟩
      | false =>
        obtain ⟨i, h1, h2⟩ := ih (k + 1) (by omega) (fun y hy => by
          rw [List.take_succ_eq_append_getElem hlt] at hy
          rcases List.mem_append.1 hy with h | h
          · exact ht y h
          · simp at h; subst h; exact hc2 rfl)
        refine ⟨i, step77 ext l l[k] k false (by omega) (by omega) (by simp [hlt]) hc _ ?_, h2⟩
        rw [wr_id (by omega) (by omega)]
        simpa using h1
  obtain ⟨i, h1, h2⟩ := key l.length 0 (by omega) (by simp)
  exact ⟨i, enter77 ext hx l _ (by simpa using h1), h2⟩
theorem cont68 (hx : ext 68 = none) (l : List ByteArray) (i : Int) (hr : run Tryd.prog ext (.call 77 [.c (.d (listS false l)), .c (.fn 69 [] [])] []) = some (.ret [iV i] [])) :
    run Tryd.prog ext (.call 68 [.c (.d (listS false l)), .c (.fn 69 [] [])] []) = some (.ret [bV (decide (i ≥ 0))] []) := by
  (rw [run_eq]; simp only [stepA, hx, Tryd.func68, Tryd.f68]; simp only [List.length_cons, List.length_nil, Nat.reduceAdd, Nat.reduceLeDiff, Nat.zero_le, ↓reduceIte, List.zipIdx_cons, List.zipIdx_nil, List.map_cons, List.map_nil])
  simp only [iV] at hr ⊢
  simp only [zS, wantedA, opA, eff, boxA, cells, ev, gt, pt, putO, updO, setO, okC, loadA, cutC, fieldAddrA, fieldA, indexAddrA, indexA, builtinA, callOpA, callV, target, ptrV, lenS, binA, intOp, strOp, unA, num, lk, over, allocA, pickA, buildA, fillA, convertA, extractA, ofComp, nilCheckA, makeFuncA, ptrs, ofValue, cellB, Nat.reduceAdd, Nat.reduceSub, Nat.reduceMul, Nat.reduceLT, Nat.reduceLeDiff, Nat.reduceGT, ↓reduceIte, Nat.reduceEqDiff, Nat.reduceBEq, reduceCtorEq, Int.reduceBEq, Int.reduceBNe, Int.reduceLT, Int.reduceLE, Int.reduceGT, Int.reduceGE, aggT_22, sizeT_22, bytesT_22, und_22, elemT_22, zero1_22, zeroT_22, aggT_3, sizeT_3, bytesT_3, und_3, zero1_3, zeroT_3, aggT_4, sizeT_4, bytesT_4, und_4, zero1_4, zeroT_4, hr]
  (refine Eq.trans ?_ rfl; kernel_rfl)
theorem no53 (hx : ext 53 = none) (s : ByteArray) (l : List ByteArray) (n : Int) (h46 : run Tryd.prog ext (.call 46 [sV s, sV semi] []) = some (.ret [.c (.d (listS false l))] [])) (hn : ¬ (l.length : Int) = n) :
    run Tryd.prog ext (.call 53 [sV s, iV n] []) = some (.ret [bV false] []) := by
  (rw [run_eq]; simp only [stepA, hx, Tryd.func53, Tryd.f53]; simp only [List.length_cons, List.length_nil, Nat.reduceAdd, Nat.reduceLeDiff, Nat.zero_le, ↓reduceIte, List.zipIdx_cons, List.zipIdx_nil, List.map_cons, List.map_nil])
  simp only [sV, iV, semi] at h46 ⊢
  simp only [zS, wantedA, opA, eff, boxA, cells, ev, gt, pt, putO, updO, setO, okC, loadA, cutC, fieldAddrA, fieldA, indexAddrA, indexA, builtinA, callOpA, callV, target, ptrV, lenS, binA, intOp, strOp, unA, num, lk, over, allocA, pickA, buildA, fillA, convertA, extractA, ofComp, nilCheckA, makeFuncA, ptrs, ofValue, cellB, Nat.reduceAdd, Nat.reduceSub, Nat.reduceMul, Nat.reduceLT, Nat.reduceLeDiff, Nat.reduceGT, ↓reduceIte, Nat.reduceEqDiff, Nat.reduceBEq, reduceCtorEq, Int.reduceBEq, Int.reduceBNe, Int.reduceLT, Int.reduceLE, Int.reduceGT, Int.reduceGE, aggT_22, sizeT_22, bytesT_22, und_22, elemT_22, zero1_22, zeroT_22, aggT_9, sizeT_9, bytesT_9, und_9, zero1_9, zeroT_9, aggT_3, sizeT_3, bytesT_3, und_3, zero1_3, zeroT_3, aggT_4, sizeT_4, bytesT_4, und_4, zero1_4, zeroT_4, h46, lenA_listS, hn]
  (refine Eq.trans ?_ rfl; kernel_rfl)
theorem yes53 (hx : ext 53 = none) (s : ByteArray) (l : List ByteArray) (b : Bool) (h46 : run Tryd.prog ext (.call 46 [sV s, sV semi] []) = some (.ret [.c (.d (listS false l))] [])) (h68 : run Tryd.prog ext (.call 68 [.c (.d (listS false l)), .c (.fn 69 [] [])] []) = some (.ret [bV b] [])) :
    run Tryd.prog ext (.call 53 [sV s, iV l.length] []) = some (.ret [bV (!b)] []) := by
  (rw [run_eq]; simp only [stepA, hx, Tryd.func53, Tryd.f53]; simp only [List.length_cons, List.length_nil, Nat.reduceAdd, Nat.reduceLeDiff, Nat.zero_le, ↓reduceIte, List.zipIdx_cons, List.zipIdx_nil, List.map_cons, List.map_nil])
  simp only [sV, iV, semi, bV] at h46 h68 ⊢
  simp only [zS, wantedA, opA, eff, boxA, cells, ev, gt, pt, putO, updO, setO, okC, loadA, cutC, fieldAddrA, fieldA, indexAddrA, indexA, builtinA, callOpA, callV, target, ptrV, lenS, binA, intOp, strOp, unA, num, lk, over, allocA, pickA, buildA, fillA, convertA, extractA, ofComp, nilCheckA, makeFuncA, ptrs, ofValue, cellB, Nat.reduceAdd, Nat.reduceSub, Nat.reduceMul, Nat.reduceLT, Nat.reduceLeDiff, Nat.reduceGT, ↓reduceIte, Nat.reduceEqDiff, Nat.reduceBEq, reduceCtorEq, Int.reduceBEq, Int.reduceBNe, Int.reduceLT, Int.reduceLE, Int.reduceGT, Int.reduceGE, aggT_22, sizeT_22, bytesT_22, und_22, elemT_22, zero1_22, zeroT_22, aggT_9, sizeT_9, bytesT_9, und_9, zero1_9, zeroT_9, aggT_3, sizeT_3, bytesT_3, und_3, zero1_3, zeroT_3, aggT_4, sizeT_4, bytesT_4, und_4, zero1_4, zeroT_4, h46, lenA_listS, h68]
  (refine Eq.trans ?_ rfl; kernel_rfl)
theorem shapes53 (h53 : ext 53 = none) (h68 : ext 68 = none) (h77 : ext 77 = none) (h69 : ext 69 = none) (h70 : ext 70 = none) (h46 : ext 46 = none) (h58 : ext 58 = none) (h72 : ext 72 = none) (h73 : ext 73 = none) (h80 : ext 80 = some nat80) (h81 : ext 81 = none) (h83 : ext 83 = none) (h87 : ext 87 = some nat87) (s : ByteArray) (hs : s.size < 2 ^ 40) (n : Int) :
    ∃ b, run Tryd.prog ext (.call 53 [sV s, iV n] []) = some (.ret [bV b] []) ∧ (b = true → ∃ k : Nat, n = k ∧ Shp ext s k) := by
  obtain ⟨l, h1, h2, h3⟩ := split46 ext h46 h58 h72 h73 h80 h81 h83 h87 s hs
  by_cases hn : (l.length : Int) = n
  · obtain ⟨i, g1, g2⟩ := index77 ext h77 h69 h70 l (by omega) (fun y hy => by have := h2 y hy; omega)
    subst hn
    refine ⟨_, yes53 ext h53 s l _ h1 (cont68 ext h68 l i g1), fun h => ⟨l.length, rfl, l, h1, rfl, fun t ht => ⟨h2 t ht, ?_⟩⟩⟩
    simp at h
    exact g2 h t ht
  · exact ⟨false, no53 ext h53 s l n h1 hn, fun h => by cases h⟩
end Go.Proofs.YtmjacokkgfophaaDoor.Am
end
section
/- isName: it comes to some bool. -/
namespace Go.Proofs.YtmjacokkgfophaaDoor.Am
open Go
variable (ext : Ext)
set_option maxHeartbeats 4000000
theorem letter67 (hx : ext 67 = none) (c : Int) : ∃ b, run Tryd.prog ext (.call 67 [.c (.d (.v (.int .i32 c)))] []) = some (.ret [bV b] []) := by
  by_cases a0 : c ≥ 97
  · by_cases b0 : c ≤ 122
    · refine ⟨false, ?_⟩
      (rw [run_eq]; simp only [stepA, hx, Tryd.func67, Tryd.f67]; simp only [List.length_cons, List.length_nil, Nat.reduceAdd, Nat.reduceLeDiff, Nat.zero_le, ↓reduceIte, List.zipIdx_cons, List.zipIdx_nil, List.map_cons, List.map_nil])
      simp only [zS, wantedA, opA, eff, boxA, cells, ev, gt, pt, putO, updO, setO, okC, loadA, cutC, fieldAddrA, fieldA, indexAddrA, indexA, builtinA, callOpA, callV, target, ptrV, lenS, binA, intOp, strOp, unA, num, lk, over, allocA, pickA, buildA, fillA, convertA, extractA, ofComp, nilCheckA, makeFuncA, ptrs, ofValue, cellB, Nat.reduceAdd, Nat.reduceSub, Nat.reduceMul, Nat.reduceLT, Nat.reduceLeDiff, Nat.reduceGT, ↓reduceIte, Nat.reduceEqDiff, Nat.reduceBEq, reduceCtorEq, Int.reduceBEq, Int.reduceBNe, Int.reduceLT, Int.reduceLE, Int.reduceGT, Int.reduceGE, aggT_21, sizeT_21, bytesT_21, und_21, zero1_21, zeroT_21, aggT_4, sizeT_4, bytesT_4, und_4, zero1_4, zeroT_4, a0, b0]
      (refine Eq.trans ?_ rfl; kernel_rfl)
    ·
      by_cases a1 : c ≥ 65
      · by_cases b1 : c ≤ 90
        · refine ⟨false, ?_⟩
          (rw [run_eq]; simp only [stepA, hx, Tryd.func67, Tryd.f67]; simp only [List.length_cons, List.length_nil, Nat.reduceAdd, Nat.reduceLeDiff, Nat.zero_le, ↓reduceIte, List.zipIdx_cons, List.zipIdx_nil, List.map_cons, List.map_nil])
          simp only [zS, wantedA, opA, eff, boxA, cells, ev, gt, pt, putO, updO, setO, okC, loadA, cutC, fieldAddrA, fieldA, indexAddrA, indexA, builtinA, callOpA, callV, target, ptrV, lenS, binA, intOp, strOp, unA, num, lk, over, allocA, pickA, buildA, fillA, convertA, extractA, ofComp, nilCheckA, makeFuncA, ptrs, ofValue, cellB, Nat.reduceAdd, Nat.reduceSub, Nat.reduceMul, Nat.reduceLT, Nat.reduceLeDiff, Nat.reduceGT, ↓reduceIte, Nat.reduceEqDiff, Nat.reduceBEq, reduceCtorEq, Int.reduceBEq, Int.reduceBNe, Int.reduceLT, Int.reduceLE, Int.reduceGT, Int.reduceGE, aggT_21, sizeT_21, bytesT_21, und_21, zero1_21, zeroT_21, aggT_4, sizeT_4, bytesT_4, und_4, zero1_4, zeroT_4, a0, b0, a1, b1]
          (refine Eq.trans ?_ rfl; kernel_rfl)
        ·
          by_cases a2 : c ≥ 48
          · by_cases b2 : c ≤ 57
            · refine ⟨false, ?_⟩
              (rw [run_eq]; simp only [stepA, hx, Tryd.func67, Tryd.f67]; simp only [List.length_cons, List.length_nil, Nat.reduceAdd, Nat.reduceLeDiff, Nat.zero_le, ↓reduceIte, List.zipIdx_cons, List.zipIdx_nil, List.map_cons, List.map_nil])
              simp only [zS, wantedA, opA, eff, boxA, cells, ev, gt, pt, putO, updO, setO, okC, loadA, cutC, fieldAddrA, fieldA, indexAddrA, indexA, builtinA, callOpA, callV, target, ptrV, lenS, binA, intOp, strOp, unA, num, lk, over, allocA, pickA, buildA, fillA, convertA, extractA, ofComp, nilCheckA, makeFuncA, ptrs, ofValue, cellB, Nat.reduceAdd, Nat.reduceSub, Nat.reduceMul, Nat.reduceLT, Nat.reduceLeDiff, Nat.reduceGT, ↓reduceIte, Nat.reduceEqDiff, Nat.reduceBEq, reduceCtorEq, Int.reduceBEq, Int.reduceBNe, Int.reduceLT, Int.reduceLE, Int.reduceGT, Int.reduceGE, aggT_21, sizeT_21, bytesT_21, und_21, zero1_21, zeroT_21, aggT_4, sizeT_4, bytesT_4, und_4, zero1_4, zeroT_4, a0, b0, a1, b1, a2, b2]
              (refine Eq.trans ?_ rfl; kernel_rfl)
            ·
              by_cases a3 : c = 95
              · refine ⟨false, ?_⟩
                (rw [run_eq]; simp only [stepA, hx, Tryd.func67, Tryd.f67]; simp only [List.length_cons, List.length_nil, Nat.reduceAdd, Nat.reduceLeDiff, Nat.zero_le, ↓reduceIte, List.zipIdx_cons, List.zipIdx_nil, List.map_cons, List.map_nil])
                simp only [zS, wantedA, opA, eff, boxA, cells, ev, gt, pt, putO, updO, setO, okC, loadA, cutC, fieldAddrA, fieldA, indexAddrA, indexA, builtinA, callOpA, callV, target, ptrV, lenS, binA, intOp, strOp, unA, num, lk, over, allocA, pickA, buildA, fillA, convertA, extractA, ofComp, nilCheckA, makeFuncA, ptrs, ofValue, cellB, Nat.reduceAdd, Nat.reduceSub, Nat.reduceMul, Nat.reduceLT, Nat.reduceLeDiff, Nat.reduceGT, ↓reduceIte, Nat.reduceEqDiff, Nat.reduceBEq, reduceCtorEq, Int.reduceBEq, Int.reduceBNe, Int.reduceLT, Int.reduceLE, Int.reduceGT, Int.reduceGE, aggT_21, sizeT_21, bytesT_21, und_21, zero1_21, zeroT_21, aggT_4, sizeT_4, bytesT_4, und_4, zero1_4, zeroT_4, a0, b0, a1, b1, a2, b2, a3]
                (refine Eq.trans ?_ rfl; kernel_rfl)
              ·
                by_cases a4 : c = 46
                · refine ⟨false, ?_⟩
                  (rw [run_eq]; simp only [stepA, hx, Tryd.func67, Tryd.f67]; simp only [List.length_cons, List.length_nil, Nat.reduceAdd, Nat.reduceLeDiff, Nat.zero_le, ↓reduceIte, List.zipIdx_cons, List.zipIdx_nil, List.map_cons, List.map_nil])
                  simp only [zS, wantedA, opA, eff, boxA, cells, ev, gt, pt, putO, updO, setO, okC, loadA, cutC, fieldAddrA, fieldA, indexAddrA, indexA, builtinA, callOpA, callV, target, ptrV, lenS, binA, intOp, strOp, unA, num, lk, over, allocA, pickA, buildA, fillA, convertA, extractA, ofComp, nilCheckA, makeFuncA, ptrs, ofValue, cellB, Nat.reduceAdd, Nat.reduceSub, Nat.reduceMul, Nat.reduceLT, Nat.reduceLeDiff, Nat.reduceGT, ↓reduceIte, Nat.reduceEqDiff, Nat.reduceBEq, reduceCtorEq, Int.reduceBEq, Int.reduceBNe, Int.reduceLT, Int.reduceLE, Int.reduceGT, Int.reduceGE, aggT_21, sizeT_21, bytesT_21, und_21, zero1_21, zeroT_21, aggT_4, sizeT_4, bytesT_4, und_4, zero1_4, zeroT_4, a0, b0, a1, b1, a2, b2, a3, a4]
                  (refine Eq.trans ?_ rfl; kernel_rfl)
                · refine ⟨true, ?_⟩
                  (rw [run_eq]; simp only [stepA, hx, Tryd.func67, Tryd.f67]; simp only [List.length_cons, List.length_nil, Nat.reduceAdd, Nat.reduceLeDiff, Nat.zero_le, ↓reduceIte, List.zipIdx_cons, List.zipIdx_nil, List.map_cons, List.map_nil])
                  simp only [zS, wantedA, opA, eff, boxA, cells, ev, gt, pt, putO, updO, setO, okC, loadA, cutC, fieldAddrA, fieldA, indexAddrA, indexA, builtinA, callOpA, callV, target, ptrV, lenS, binA, intOp, strOp, unA, num, lk, over, allocA, pickA, buildA, fillA, convertA, extractA, ofComp, nilCheckA, makeFuncA, ptrs, ofValue, cellB, Nat.reduceAdd, Nat.reduceSub, Nat.reduceMul, Nat.reduceLT, Nat.reduceLeDiff, Nat.reduceGT, ↓reduceIte, Nat.reduceEqDiff, Nat.reduceBEq, reduceCtorEq, Int.reduceBEq, Int.reduceBNe, Int.reduceLT, Int.reduceLE, Int.reduceGT, Int.reduceGE, aggT_21, sizeT_21, bytesT_21, und_21, zero1_21, zeroT_21, aggT_4, sizeT_4, bytesT_4, und_4, zero1_4, zeroT_4, a0, b0, a1, b1, a2, b2, a3, a4]
                  (refine Eq.trans ?_ rfl; kernel_rfl)
          ·
            by_cases a3 : c = 95
            · refine ⟨false, ?_⟩
              (rw [run_eq]; simp only [stepA, hx, Tryd.func67, Tryd.f67]; simp only [List.length_cons, List.length_nil, Nat.reduceAdd, Nat.reduceLeDiff, Nat.zero_le, ↓reduceIte, List.zipIdx_cons, List.zipIdx_nil, List.map_cons, List.map_nil])
              simp only [zS, wantedA, opA, eff, boxA, cells, ev, gt, pt, putO, updO, setO, okC, loadA, cutC, fieldAddrA, fieldA, indexAddrA, indexA, builtinA, callOpA, callV, target, ptrV, lenS, binA, intOp, strOp, unA, num, lk, over, allocA, pickA, buildA, fillA, convertA, extractA, ofComp, nilCheckA, makeFuncA, ptrs, ofValue, cellB, Nat.reduceAdd, Nat.reduceSub, Nat.reduceMul, Nat.reduceLT, Nat.reduceLeDiff, Nat.reduceGT, ↓reduceIte, Nat.reduceEqDiff, Nat.reduceBEq, reduceCtorEq, Int.reduceBEq, Int.reduceBNe, Int.reduceLT, Int.reduceLE, Int.reduceGT, Int.reduceGE, aggT_21, sizeT_21, bytesT_21, und_21, zero1_21, zeroT_21, aggT_4, sizeT_4, bytesT_4, und_4, zero1_4, zeroT_4, a0, b0, a1, b1, a2, a3]
              (refine Eq.trans ?_ rfl; kernel_rfl)
            ·
              by_cases a4 : c = 46
              · refine ⟨false, ?_⟩
                (rw [run_eq]; simp only [stepA, hx, Tryd.func67, Tryd.f67]; simp only [List.length_cons, List.length_nil, Nat.reduceAdd, Nat.reduceLeDiff, Nat.zero_le, ↓reduceIte, List.zipIdx_cons, List.zipIdx_nil, List.map_cons, List.map_nil])
                simp only [zS, wantedA, opA, eff, boxA, cells, ev, gt, pt, putO, updO, setO, okC, loadA, cutC, fieldAddrA, fieldA, indexAddrA, indexA, builtinA, callOpA, callV, target, ptrV, lenS, binA, intOp, strOp, unA, num, lk, over, allocA, pickA, buildA, fillA, convertA, extractA, ofComp, nilCheckA, makeFuncA, ptrs, ofValue, cellB, Nat.reduceAdd, Nat.reduceSub, Nat.reduceMul, Nat.reduceLT, Nat.reduceLeDiff, Nat.reduceGT, ↓reduceIte, Nat.reduceEqDiff, Nat.reduceBEq, reduceCtorEq, Int.reduceBEq, Int.reduceBNe, Int.reduceLT, Int.reduceLE, Int.reduceGT, Int.reduceGE, aggT_21, sizeT_21, bytesT_21, und_21, zero1_21, zeroT_21, aggT_4, sizeT_4, bytesT_4, und_4, zero1_4, zeroT_4, a0, b0, a1, b1, a2, a3, a4]
                (refine Eq.trans ?_ rfl; kernel_rfl)
              · refine ⟨true, ?_⟩
                (rw [run_eq]; simp only [stepA, hx, Tryd.func67, Tryd.f67]; simp only [List.length_cons, List.length_nil, Nat.reduceAdd, Nat.reduceLeDiff, Nat.zero_le, ↓reduceIte, List.zipIdx_cons, List.zipIdx_nil, List.map_cons, List.map_nil])
                simp only [zS, wantedA, opA, eff, boxA, cells, ev, gt, pt, putO, updO, setO, okC, loadA, cutC, fieldAddrA, fieldA, indexAddrA, indexA, builtinA, callOpA, callV, target, ptrV, lenS, binA, intOp, strOp, unA, num, lk, over, allocA, pickA, buildA, fillA, convertA, extractA, ofComp, nilCheckA, makeFuncA, ptrs, ofValue, cellB, Nat.reduceAdd, Nat.reduceSub, Nat.reduceMul, Nat.reduceLT, Nat.reduceLeDiff, Nat.reduceGT, ↓reduceIte, Nat.reduceEqDiff, Nat.reduceBEq, reduceCtorEq, Int.reduceBEq, Int.reduceBNe, Int.reduceLT, Int.reduceLE, Int.reduceGT, Int.reduceGE, aggT_21, sizeT_21, bytesT_21, und_21, zero1_21, zeroT_21, aggT_4, sizeT_4, bytesT_4, und_4, zero1_4, zeroT_4, a0, b0, a1, b1, a2, a3, a4]
                (refine Eq.trans ?_ rfl; kernel_rfl)
      ·
        by_cases a2 : c ≥ 48
        · by_cases b2 : c ≤ 57
          · refine ⟨false, ?_⟩
            (rw [run_eq]; simp only [stepA, hx, Tryd.func67, Tryd.f67]; simp only [List.length_cons, List.length_nil, Nat.reduceAdd, Nat.reduceLeDiff, Nat.zero_le, ↓reduceIte, List.zipIdx_cons, List.zipIdx_nil, List.map_cons, List.map_nil])
            simp only [zS, wantedA, opA, eff, boxA, cells, ev, gt, pt, putO, updO, setO, okC, loadA, cutC, fieldAddrA, fieldA, indexAddrA, indexA, builtinA, callOpA, callV, target, ptrV, lenS, binA, intOp, strOp, unA, num, lk, over, allocA, pickA, buildA, fillA, convertA, extractA, ofComp, nilCheckA, makeFuncA, ptrs, ofValue, cellB, Nat.reduceAdd, Nat.reduceSub, Nat.reduceMul, Nat.reduceLT, Nat.reduceLeDiff, Nat.reduceGT, ↓reduceIte, Nat.reduceEqDiff, Nat.reduceBEq, reduceCtorEq, Int.reduceBEq, Int.reduceBNe, Int.reduceLT, Int.reduceLE, Int.reduceGT, Int.reduceGE, aggT_21, sizeT_21, bytesT_21, und_21, zero1_21, zeroT_21, aggT_4, sizeT_4, bytesT_4, und_4, zero1_4, zeroT_4, a0, b0, a1, a2, b2]
            (refine Eq.trans ?_ rfl; kernel_rfl)
          ·
            by_cases a3 : c = 95
            · refine ⟨false, ?_⟩
              (rw [run_eq]; simp only [stepA, hx, Tryd.func67, Tryd.f67]; simp only [List.length_cons, List.length_nil, Nat.reduceAdd, Nat.reduceLeDiff, Nat.zero_le, ↓reduceIte, List.zipIdx_cons, List.zipIdx_nil, List.map_cons, List.map_nil])
              simp only [zS, wantedA, opA, eff, boxA, cells, ev, gt, pt, putO, updO, setO, okC, loadA, cutC, fieldAddrA, fieldA, indexAddrA, indexA, builtinA, callOpA, callV, target, ptrV, lenS, binA, intOp, strOp, unA, num, lk, over, allocA, pickA, buildA, fillA, convertA, extractA, ofComp, nilCheckA, makeFuncA, ptrs, ofValue, cellB, Nat.reduceAdd, Nat.reduceSub, Nat.reduceMul, Nat.reduceLT, Nat.reduceLeDiff, Nat.reduceGT, ↓reduceIte, Nat.reduceEqDiff, Nat.reduceBEq, reduceCtorEq, Int.reduceBEq, Int.reduceBNe, Int.reduceLT, Int.reduceLE, Int.reduceGT, Int.reduceGE, aggT_21, sizeT_21, bytesT_21, und_21, zero1_21, zeroT_21, aggT_4, sizeT_4, bytesT_4, und_4, zero1_4, zeroT_4, a0, b0, a1, a2, b2, a3]
              (refine Eq.trans ?_ rfl; kernel_rfl)
            ·
              by_cases a4 : c = 46
              · refine ⟨false, ?_⟩
                (rw [run_eq]; simp only [stepA, hx, Tryd.func67, Tryd.f67]; simp only [List.length_cons, List.length_nil, Nat.reduceAdd, Nat.reduceLeDiff, Nat.zero_le, ↓reduceIte, List.zipIdx_cons, List.zipIdx_nil, List.map_cons, List.map_nil])
                simp only [zS, wantedA, opA, eff, boxA, cells, ev, gt, pt, putO, updO, setO, okC, loadA, cutC, fieldAddrA, fieldA, indexAddrA, indexA, builtinA, callOpA, callV, target, ptrV, lenS, binA, intOp, strOp, unA, num, lk, over, allocA, pickA, buildA, fillA, convertA, extractA, ofComp, nilCheckA, makeFuncA, ptrs, ofValue, cellB, Nat.reduceAdd, Nat.reduceSub, Nat.reduceMul, Nat.reduceLT, Nat.reduceLeDiff, Nat.reduceGT, ↓reduceIte, Nat.reduceEqDiff, Nat.reduceBEq, reduceCtorEq, Int.reduceBEq, Int.reduceBNe, Int.reduceLT, Int.reduceLE, Int.reduceGT, Int.reduceGE, aggT_21, sizeT_21, bytesT_21, und_21, zero1_21, zeroT_21, aggT_4, sizeT_4, bytesT_4, und_4, zero1_4, zeroT_4, a0, b0, a1, a2, b2, a3, a4]
                (refine Eq.trans ?_ rfl; kernel_rfl)
              · refine ⟨true, ?_⟩
                (rw [run_eq]; simp only [stepA, hx, Tryd.func67, Tryd.f67]; simp only [List.length_cons, List.length_nil, Nat.reduceAdd, Nat.reduceLeDiff, Nat.zero_le, ↓reduceIte, List.zipIdx_cons, List.zipIdx_nil, List.map_cons, List.map_nil])
                simp only [zS, wantedA, opA, eff, boxA, cells, ev, gt, pt, putO, updO, setO, okC, loadA, cutC, fieldAddrA, fieldA, indexAddrA, indexA, builtinA, callOpA, callV, target, ptrV, lenS, binA, intOp, strOp, unA, num, lk, over, allocA, pickA, buildA, fillA, convertA, extractA, ofComp, nilCheckA, makeFuncA, ptrs, ofValue, cellB, Nat.reduceAdd, Nat.reduceSub, Nat.reduceMul, Nat.reduceLT, Nat.reduceLeDiff, Nat.reduceGT, ↓reduceIte, Nat.reduceEqDiff, Nat.reduceBEq, reduceCtorEq, Int.reduceBEq, Int.reduceBNe, Int.reduceLT, Int.reduceLE, Int.reduceGT, Int.reduceGE, aggT_21, sizeT_21, bytesT_21, und_21, zero1_21, zeroT_21, aggT_4, sizeT_4, bytesT_4, und_4, zero1_4, zeroT_4, a0, b0, a1, a2, b2, a3, a4]
                (refine Eq.trans ?_ rfl; kernel_rfl)
        ·
          by_cases a3 : c = 95
          · refine ⟨false, ?_⟩
            (rw [run_eq]; simp only [stepA, hx, Tryd.func67, Tryd.f67]; simp only [List.length_cons, List.length_nil, Nat.reduceAdd, Nat.reduceLeDiff, Nat.zero_le, ↓reduceIte, List.zipIdx_cons, List.zipIdx_nil, List.map_cons, List.map_nil])
            simp only [zS, wantedA, opA, eff, boxA, cells, ev, gt, pt, putO, updO, setO, okC, loadA, cutC, fieldAddrA, fieldA, indexAddrA, indexA, builtinA, callOpA, callV, target, ptrV, lenS, binA, intOp, strOp, unA, num, lk, over, allocA, pickA, buildA, fillA, convertA, extractA, ofComp, nilCheckA, makeFuncA, ptrs, ofValue, cellB, Nat.reduceAdd, Nat.reduceSub, Nat.reduceMul, Nat.reduceLT, Nat.reduceLeDiff, Nat.reduceGT, ↓reduceIte, Nat.reduceEqDiff, Nat.reduceBEq, reduceCtorEq, Int.reduceBEq, Int.reduceBNe, Int.reduceLT, Int.reduceLE, Int.reduceGT, Int.reduceGE, aggT_21, sizeT_21, bytesT_21, und_21, zero1_21, zeroT_21, aggT_4, sizeT_4, bytesT_4, und_4, zero1_4, zeroT_4, a0, b0, a1, a2, a3]
            (refine Eq.trans ?_ rfl; kernel_rfl)
          ·
            by_cases a4 : c = 46
            · refine ⟨false, ?_⟩
              (rw [run_eq]; simp only [stepA, hx, Tryd.func67, Tryd.f67]; simp only [List.length_cons, List.length_nil, Nat.reduceAdd, Nat.reduceLeDiff, Nat.zero_le, ↓reduceIte, List.zipIdx_cons, List.zipIdx_nil, List.map_cons, List.map_nil])
              simp only [zS, wantedA, opA, eff, boxA, cells, ev, gt, pt, putO, updO, setO, okC, loadA, cutC, fieldAddrA, fieldA, indexAddrA, indexA, builtinA, callOpA, callV, target, ptrV, lenS, binA, intOp, strOp, unA, num, lk, over, allocA, pickA, buildA, fillA, convertA, extractA, ofComp, nilCheckA, makeFuncA, ptrs, ofValue, cellB, Nat.reduceAdd, Nat.reduceSub, Nat.reduceMul, Nat.reduceLT, Nat.reduceLeDiff, Nat.reduceGT, ↓reduceIte, Nat.reduceEqDiff, Nat.reduceBEq, reduceCtorEq, Int.reduceBEq, Int.reduceBNe, Int.reduceLT, Int.reduceLE, Int.reduceGT, Int.reduceGE, aggT_21, sizeT_21, bytesT_21, und_21, zero1_21, zeroT_21, aggT_4, sizeT_4, bytesT_4, und_4, zero1_4, zeroT_4, a0, b0, a1, a2, a3, a4]
              (refine Eq.trans ?_ rfl; kernel_rfl)
            · refine ⟨true, ?_⟩
              (rw [run_eq]; simp only [stepA, hx, Tryd.func67, Tryd.f67]; simp only [List.length_cons, List.length_nil, Nat.reduceAdd, Nat.reduceLeDiff, Nat.zero_le, ↓reduceIte, List.zipIdx_cons, List.zipIdx_nil, List.map_cons, List.map_nil])
              simp only [zS, wantedA, opA, eff, boxA, cells, ev, gt, pt, putO, updO, setO, okC, loadA, cutC, fieldAddrA, fieldA, indexAddrA, indexA, builtinA, callOpA, callV, target, ptrV, lenS, binA, intOp, strOp, unA, num, lk, over, allocA, pickA, buildA, fillA, convertA, extractA, ofComp, nilCheckA, makeFuncA, ptrs, ofValue, cellB, Nat.reduceAdd, Nat.reduceSub, Nat.reduceMul, Nat.reduceLT, Nat.reduceLeDiff, Nat.reduceGT, ↓reduceIte, Nat.reduceEqDiff, Nat.reduceBEq, reduceCtorEq, Int.reduceBEq, Int.reduceBNe, Int.reduceLT, Int.reduceLE, Int.reduceGT, Int.reduceGE, aggT_21, sizeT_21, bytesT_21, und_21, zero1_21, zeroT_21, aggT_4, sizeT_4, bytesT_4, und_4, zero1_4, zeroT_4, a0, b0, a1, a2, a3, a4]
              (refine Eq.trans ?_ rfl; kernel_rfl)
  ·
    by_cases a1 : c ≥ 65
    · by_cases b1 : c ≤ 90
      · refine ⟨false, ?_⟩
        (rw [run_eq]; simp only [stepA, hx, Tryd.func67, Tryd.f67]; simp only [List.length_cons, List.length_nil, Nat.reduceAdd, Nat.reduceLeDiff, Nat.zero_le, ↓reduceIte, List.zipIdx_cons, List.zipIdx_nil, List.map_cons, List.map_nil])
        simp only [zS, wantedA, opA, eff, boxA, cells, ev, gt, pt, putO, updO, setO, okC, loadA, cutC, fieldAddrA, fieldA, indexAddrA, indexA, builtinA, callOpA, callV, target, ptrV, lenS, binA, intOp, strOp, unA, num, lk, over, allocA, pickA, buildA, fillA, convertA, extractA, ofComp, nilCheckA, makeFuncA, ptrs, ofValue, cellB, Nat.reduceAdd, Nat.reduceSub, Nat.reduceMul, Nat.reduceLT, Nat.reduceLeDiff, Nat.reduceGT, ↓reduceIte, Nat.reduceEqDiff, Nat.reduceBEq, reduceCtorEq, Int.reduceBEq, Int.reduceBNe, Int.reduceLT, Int.reduceLE, Int.reduceGT, Int.reduceGE, aggT_21, sizeT_21, bytesT_21, und_21, zero1_21, zeroT_21, aggT_4, sizeT_4, bytesT_4, und_4, zero1_4, zeroT_4, a0, a1, b1]
        (refine Eq.trans ?_ rfl; kernel_rfl)
      ·
        by_cases a2 : c ≥ 48
        · by_cases b2 : c ≤ 57
          · refine ⟨false, ?_⟩
            (rw [run_eq]; simp only [stepA, hx, Tryd.func67, Tryd.f67]; simp only [List.length_cons, List.length_nil, Nat.reduceAdd, Nat.reduceLeDiff, Nat.zero_le, ↓reduceIte, List.zipIdx_cons, List.zipIdx_nil, List.map_cons, List.map_nil])
            simp only [zS, wantedA, opA, eff, boxA, cells, ev, gt, pt, putO, updO, setO, okC, loadA, cutC, fieldAddrA, fieldA, indexAddrA, indexA, builtinA, callOpA, callV, target, ptrV, lenS, binA, intOp, strOp, unA, num, lk, over, allocA, pickA, buildA, fillA, convertA, extractA, ofComp, nilCheckA, makeFuncA, ptrs, ofValue, cellB, Nat.reduceAdd, Nat.reduceSub, Nat.reduceMul, Nat.reduceLT, Nat.reduceLeDiff, Nat.reduceGT, ↓reduceIte, Nat.reduceEqDiff, Nat.reduceBEq, reduceCtorEq, Int.reduceBEq, Int.reduceBNe, Int.reduceLT, Int.reduceLE, Int.reduceGT, Int.reduceGE, aggT_21, sizeT_21, bytesT_21, und_21, zero1_21, zeroT_21, aggT_4, sizeT_4, bytesT_4, und_4, zero1_4, zeroT_4, a0, a1, b1, a2, b2]
            (refine Eq.trans ?_ rfl; kernel_rfl)
          ·
            by_cases a3 : c = 95
            · refine ⟨false, ?_⟩
              (rw [run_eq]; simp only [stepA, hx, Tryd.func67, Tryd.f67]; simp only [List.length_cons, List.length_nil, Nat.reduceAdd, Nat.reduceLeDiff, Nat.zero_le, ↓reduceIte, List.zipIdx_cons, List.zipIdx_nil, List.map_cons, List.map_nil])
              simp only [zS, wantedA, opA, eff, boxA, cells, ev, gt, pt, putO, updO, setO, okC, loadA, cutC, fieldAddrA, fieldA, indexAddrA, indexA, builtinA, callOpA, callV, target, ptrV, lenS, binA, intOp, strOp, unA, num, lk, over, allocA, pickA, buildA, fillA, convertA, extractA, ofComp, nilCheckA, makeFuncA, ptrs, ofValue, cellB, Nat.reduceAdd, Nat.reduceSub, Nat.reduceMul, Nat.reduceLT, Nat.reduceLeDiff, Nat.reduceGT, ↓reduceIte, Nat.reduceEqDiff, Nat.reduceBEq, reduceCtorEq, Int.reduceBEq, Int.reduceBNe, Int.reduceLT, Int.reduceLE, Int.reduceGT, Int.reduceGE, aggT_21, sizeT_21, bytesT_21, und_21, zero1_21, zeroT_21, aggT_4, sizeT_4, bytesT_4, und_4, zero1_4, zeroT_4, a0, a1, b1, a2, b2, a3]
              (refine Eq.trans ?_ rfl; kernel_rfl)
            ·
              by_cases a4 : c = 46
              · refine ⟨false, ?_⟩
                (rw [run_eq]; simp only [stepA, hx, Tryd.func67, Tryd.f67]; simp only [List.length_cons, List.length_nil, Nat.reduceAdd, Nat.reduceLeDiff, Nat.zero_le, ↓reduceIte, List.zipIdx_cons, List.zipIdx_nil, List.map_cons, List.map_nil])
                simp only [zS, wantedA, opA, eff, boxA, cells, ev, gt, pt, putO, updO, setO, okC, loadA, cutC, fieldAddrA, fieldA, indexAddrA, indexA, builtinA, callOpA, callV, target, ptrV, lenS, binA, intOp, strOp, unA, num, lk, over, allocA, pickA, buildA, fillA, convertA, extractA, ofComp, nilCheckA, makeFuncA, ptrs, ofValue, cellB, Nat.reduceAdd, Nat.reduceSub, Nat.reduceMul, Nat.reduceLT, Nat.reduceLeDiff, Nat.reduceGT, ↓reduceIte, Nat.reduceEqDiff, Nat.reduceBEq, reduceCtorEq, Int.reduceBEq, Int.reduceBNe, Int.reduceLT, Int.reduceLE, Int.reduceGT, Int.reduceGE, aggT_21, sizeT_21, bytesT_21, und_21, zero1_21, zeroT_21, aggT_4, sizeT_4, bytesT_4, und_4, zero1_4, zeroT_4, a0, a1, b1, a2, b2, a3, a4]
                (refine Eq.trans ?_ rfl; kernel_rfl)
              · refine ⟨true, ?_⟩
                (rw [run_eq]; simp only [stepA, hx, Tryd.func67, Tryd.f67]; simp only [List.length_cons, List.length_nil, Nat.reduceAdd, Nat.reduceLeDiff, Nat.zero_le, ↓reduceIte, List.zipIdx_cons, List.zipIdx_nil, List.map_cons, List.map_nil])
                simp only [zS, wantedA, opA, eff, boxA, cells, ev, gt, pt, putO, updO, setO, okC, loadA, cutC, fieldAddrA, fieldA, indexAddrA, indexA, builtinA, callOpA, callV, target, ptrV, lenS, binA, intOp, strOp, unA, num, lk, over, allocA, pickA, buildA, fillA, convertA, extractA, ofComp, nilCheckA, makeFuncA, ptrs, ofValue, cellB, Nat.reduceAdd, Nat.reduceSub, Nat.reduceMul, Nat.reduceLT, Nat.reduceLeDiff, Nat.reduceGT, ↓reduceIte, Nat.reduceEqDiff, Nat.reduceBEq, reduceCtorEq, Int.reduceBEq, Int.reduceBNe, Int.reduceLT, Int.reduceLE, Int.reduceGT, Int.reduceGE, aggT_21, sizeT_21, bytesT_21, und_21, zero1_21, zeroT_21, aggT_4, sizeT_4, bytesT_4, und_4, zero1_4, zeroT_4, a0, a1, b1, a2, b2, a3, a4]
                (refine Eq.trans ?_ rfl; kernel_rfl)
        ·
          by_cases a3 : c = 95
          · refine ⟨false, ?_⟩
            (rw [run_eq]; simp only [stepA, hx, Tryd.func67, Tryd.f67]; simp only [List.length_cons, List.length_nil, Nat.reduceAdd, Nat.reduceLeDiff, Nat.zero_le, ↓reduceIte, List.zipIdx_cons, List.zipIdx_nil, List.map_cons, List.map_nil])
            simp only [zS, wantedA, opA, eff, boxA, cells, ev, gt, pt, putO, updO, setO, okC, loadA, cutC, fieldAddrA, fieldA, indexAddrA, indexA, builtinA, callOpA, callV, target, ptrV, lenS, binA, intOp, strOp, unA, num, lk, over, allocA, pickA, buildA, fillA, convertA, extractA, ofComp, nilCheckA, makeFuncA, ptrs, ofValue, cellB, Nat.reduceAdd, Nat.reduceSub, Nat.reduceMul, Nat.reduceLT, Nat.reduceLeDiff, Nat.reduceGT, ↓reduceIte, Nat.reduceEqDiff, Nat.reduceBEq, reduceCtorEq, Int.reduceBEq, Int.reduceBNe, Int.reduceLT, Int.reduceLE, Int.reduceGT, Int.reduceGE, aggT_21, sizeT_21, bytesT_21, und_21, zero1_21, zeroT_21, aggT_4, sizeT_4, bytesT_4, und_4, zero1_4, zeroT_4, a0, a1, b1, a2, a3]
            (refine Eq.trans ?_ rfl; kernel_rfl)
          ·
            by_cases a4 : c = 46
            · refine ⟨false, ?_⟩
              (rw [run_eq]; simp only [stepA, hx, Tryd.func67, Tryd.f67]; simp only [List.length_cons, List.length_nil, Nat.reduceAdd, Nat.reduceLeDiff, Nat.zero_le, ↓reduceIte, List.zipIdx_cons, List.zipIdx_nil, List.map_cons, List.map_nil])
              simp only [zS, wantedA, opA, eff, boxA, cells, ev, gt, pt, putO, updO, setO, okC, loadA, cutC, fieldAddrA, fieldA, indexAddrA, indexA, builtinA, callOpA, callV, target, ptrV, lenS, binA, intOp, strOp, unA, num, lk, over, allocA, pickA, buildA, fillA, convertA, extractA, ofComp, nilCheckA, makeFuncA, ptrs, ofValue, cellB, Nat.reduceAdd, Nat.reduceSub, Nat.reduceMul, Nat.reduceLT, Nat.reduceLeDiff, Nat.reduceGT, ↓reduceIte, Nat.reduceEqDiff, Nat.reduceBEq, reduceCtorEq, Int.reduceBEq, Int.reduceBNe, Int.reduceLT, Int.reduceLE, Int.reduceGT, Int.reduceGE, aggT_21, sizeT_21, bytesT_21, und_21, zero1_21, zeroT_21, aggT_4, sizeT_4, bytesT_4, und_4, zero1_4, zeroT_4, a0, a1, b1, a2, a3, a4]
              (refine Eq.trans ?_ rfl; kernel_rfl)
            · refine ⟨true, ?_⟩
              (rw [run_eq]; simp only [stepA, hx, Tryd.func67, Tryd.f67]; simp only [List.length_cons, List.length_nil, Nat.reduceAdd, Nat.reduceLeDiff, Nat.zero_le, ↓reduceIte, List.zipIdx_cons, List.zipIdx_nil, List.map_cons, List.map_nil])
              simp only [zS, wantedA, opA, eff, boxA, cells, ev, gt, pt, putO, updO, setO, okC, loadA, cutC, fieldAddrA, fieldA, indexAddrA, indexA, builtinA, callOpA, callV, target, ptrV, lenS, binA, intOp, strOp, unA, num, lk, over, allocA, pickA, buildA, fillA, convertA, extractA, ofComp, nilCheckA, makeFuncA, ptrs, ofValue, cellB, Nat.reduceAdd, Nat.reduceSub, Nat.reduceMul, Nat.reduceLT, Nat.reduceLeDiff, Nat.reduceGT, ↓reduceIte, Nat.reduceEqDiff, Nat.reduceBEq, reduceCtorEq, Int.reduceBEq, Int.reduceBNe, Int.reduceLT, Int.reduceLE, Int.reduceGT, Int.reduceGE, aggT_21, sizeT_21, bytesT_21, und_21, zero1_21, zeroT_21, aggT_4, sizeT_4, bytesT_4, und_4, zero1_4, zeroT_4, a0, a1, b1, a2, a3, a4]
              (refine Eq.trans ?_ rfl; kernel_rfl)
    ·
      by_cases a2 : c ≥ 48
      · by_cases b2 : c ≤ 57
        · refine ⟨false, ?_⟩
          (rw [run_eq]; simp only [stepA, hx, Tryd.func67, Tryd.f67]; simp only [List.length_cons, List.length_nil, Nat.reduceAdd, Nat.reduceLeDiff, Nat.zero_le, ↓reduceIte, List.zipIdx_cons, List.zipIdx_nil, List.map_cons, List.map_nil])
          simp only [zS, wantedA, opA, eff, boxA, cells, ev, gt, pt, putO, updO, setO, okC, loadA, cutC, fieldAddrA, fieldA, indexAddrA, indexA, builtinA, callOpA, callV, target, ptrV, lenS, binA, intOp, strOp, unA, num, lk, over, allocA, pickA, buildA, fillA, convertA, extractA, ofComp, nilCheckA, makeFuncA, ptrs, ofValue, cellB, Nat.reduceAdd, Nat.reduceSub, Nat.reduceMul, Nat.reduceLT, Nat.reduceLeDiff, Nat.reduceGT, ↓reduceIte, Nat.reduceEqDiff, Nat.reduceBEq, reduceCtorEq, Int.reduceBEq, Int.reduceBNe, Int.reduceLT, Int.reduceLE, Int.reduceGT, Int.reduceGE, aggT_21, sizeT_21, bytesT_21, und_21, zero1_21, zeroT_21, aggT_4, sizeT_4, bytesT_4, und_4, zero1_4, zeroT_4, a0, a1, a2, b2]
          (refine Eq.trans ?_ rfl; kernel_rfl)
        ·
          by_cases a3 : c = 95
          · refine ⟨false, ?_⟩
            (rw [run_eq]; simp only [stepA, hx, Tryd.func67, Tryd.f67]; simp only [List.length_cons, List.length_nil, Nat.reduceAdd, Nat.reduceLeDiff, Nat.zero_le, ↓reduceIte, List.zipIdx_cons, List.zipIdx_nil, List.map_cons, List.map_nil])
            simp only [zS, wantedA, opA, eff, boxA, cells, ev, gt, pt, putO, updO, setO, okC, loadA, cutC, fieldAddrA, fieldA, indexAddrA, indexA, builtinA, callOpA, callV, target, ptrV, lenS, binA, intOp, strOp, unA, num, lk, over, allocA, pickA, buildA, fillA, convertA, extractA, ofComp, nilCheckA, makeFuncA, ptrs, ofValue, cellB, Nat.reduceAdd, Nat.reduceSub, Nat.reduceMul, Nat.reduceLT, Nat.reduceLeDiff, Nat.reduceGT, ↓reduceIte, Nat.reduceEqDiff, Nat.reduceBEq, reduceCtorEq, Int.reduceBEq, Int.reduceBNe, Int.reduceLT, Int.reduceLE, Int.reduceGT, Int.reduceGE, aggT_21, sizeT_21, bytesT_21, und_21, zero1_21, zeroT_21, aggT_4, sizeT_4, bytesT_4, und_4, zero1_4, zeroT_4, a0, a1, a2, b2, a3]
            (refine Eq.trans ?_ rfl; kernel_rfl)
          ·
            by_cases a4 : c = 46
            · refine ⟨false, ?_⟩
              (rw [run_eq]; simp only [stepA, hx, Tryd.func67, Tryd.f67]; simp only [List.length_cons, List.length_nil, Nat.reduceAdd, Nat.reduceLeDiff, Nat.zero_le, ↓reduceIte, List.zipIdx_cons, List.zipIdx_nil, List.map_cons, List.map_nil])
              simp only [zS, wantedA, opA, eff, boxA, cells, ev, gt, pt, putO, updO, setO, okC, loadA, cutC, fieldAddrA, fieldA, indexAddrA, indexA, builtinA, callOpA, callV, target, ptrV, lenS, binA, intOp, strOp, unA, num, lk, over, allocA, pickA, buildA, fillA, convertA, extractA, ofComp, nilCheckA, makeFuncA, ptrs, ofValue, cellB, Nat.reduceAdd, Nat.reduceSub, Nat.reduceMul, Nat.reduceLT, Nat.reduceLeDiff, Nat.reduceGT, ↓reduceIte, Nat.reduceEqDiff, Nat.reduceBEq, reduceCtorEq, Int.reduceBEq, Int.reduceBNe, Int.reduceLT, Int.reduceLE, Int.reduceGT, Int.reduceGE, aggT_21, sizeT_21, bytesT_21, und_21, zero1_21, zeroT_21, aggT_4, sizeT_4, bytesT_4, und_4, zero1_4, zeroT_4, a0, a1, a2, b2, a3, a4]
              (refine Eq.trans ?_ rfl; kernel_rfl)
            · refine ⟨true, ?_⟩
              (rw [run_eq]; simp only [stepA, hx, Tryd.func67, Tryd.f67]; simp only [List.length_cons, List.length_nil, Nat.reduceAdd, Nat.reduceLeDiff, Nat.zero_le, ↓reduceIte, List.zipIdx_cons, List.zipIdx_nil, List.map_cons, List.map_nil])
              simp only [zS, wantedA, opA, eff, boxA, cells, ev, gt, pt, putO, updO, setO, okC, loadA, cutC, fieldAddrA, fieldA, indexAddrA, indexA, builtinA, callOpA, callV, target, ptrV, lenS, binA, intOp, strOp, unA, num, lk, over, allocA, pickA, buildA, fillA, convertA, extractA, ofComp, nilCheckA, makeFuncA, ptrs, ofValue, cellB, Nat.reduceAdd, Nat.reduceSub, Nat.reduceMul, Nat.reduceLT, Nat.reduceLeDiff, Nat.reduceGT, ↓reduceIte, Nat.reduceEqDiff, Nat.reduceBEq, reduceCtorEq, Int.reduceBEq, Int.reduceBNe, Int.reduceLT, Int.reduceLE, Int.reduceGT, Int.reduceGE, aggT_21, sizeT_21, bytesT_21, und_21, zero1_21, zeroT_21, aggT_4, sizeT_4, bytesT_4, und_4, zero1_4, zeroT_4, a0, a1, a2, b2, a3, a4]
              (refine Eq.trans ?_ rfl; kernel_rfl)
      ·
        by_cases a3 : c = 95
        · refine ⟨false, ?_⟩
          (rw [run_eq]; simp only [stepA, hx, Tryd.func67, Tryd.f67]; simp only [List.length_cons, List.length_nil, Nat.reduceAdd, Nat.reduceLeDiff, Nat.zero_le, ↓reduceIte, List.zipIdx_cons, List.zipIdx_nil, List.map_cons, List.map_nil])
          simp only [zS, wantedA, opA, eff, boxA, cells, ev, gt, pt, putO, updO, setO, okC, loadA, cutC, fieldAddrA, fieldA, indexAddrA, indexA, builtinA, callOpA, callV, target, ptrV, lenS, binA, intOp, strOp, unA, num, lk, over, allocA, pickA, buildA, fillA, convertA, extractA, ofComp, nilCheckA, makeFuncA, ptrs, ofValue, cellB, Nat.reduceAdd, Nat.reduceSub, Nat.reduceMul, Nat.reduceLT, Nat.reduceLeDiff, Nat.reduceGT, ↓reduceIte, Nat.reduceEqDiff, Nat.reduceBEq, reduceCtorEq, Int.reduceBEq, Int.reduceBNe, Int.reduceLT, Int.reduceLE, Int.reduceGT, Int.reduceGE, aggT_21, sizeT_21, bytesT_21, und_21, zero1_21, zeroT_21, aggT_4, sizeT_4, bytesT_4, und_4, zero1_4, zeroT_4, a0, a1, a2, a3]
          (refine Eq.trans ?_ rfl; kernel_rfl)
        ·
          by_cases a4 : c = 46
          · refine ⟨false, ?_⟩
            (rw [run_eq]; simp only [stepA, hx, Tryd.func67, Tryd.f67]; simp only [List.length_cons, List.length_nil, Nat.reduceAdd, Nat.reduceLeDiff, Nat.zero_le, ↓reduceIte, List.zipIdx_cons, List.zipIdx_nil, List.map_cons, List.map_nil])
            simp only [zS, wantedA, opA, eff, boxA, cells, ev, gt, pt, putO, updO, setO, okC, loadA, cutC, fieldAddrA, fieldA, indexAddrA, indexA, builtinA, callOpA, callV, target, ptrV, lenS, binA, intOp, strOp, unA, num, lk, over, allocA, pickA, buildA, fillA, convertA, extractA, ofComp, nilCheckA, makeFuncA, ptrs, ofValue, cellB, Nat.reduceAdd, Nat.reduceSub, Nat.reduceMul, Nat.reduceLT, Nat.reduceLeDiff, Nat.reduceGT, ↓reduceIte, Nat.reduceEqDiff, Nat.reduceBEq, reduceCtorEq, Int.reduceBEq, Int.reduceBNe, Int.reduceLT, Int.reduceLE, Int.reduceGT, Int.reduceGE, aggT_21, sizeT_21, bytesT_21, und_21, zero1_21, zeroT_21, aggT_4, sizeT_4, bytesT_4, und_4, zero1_4, zeroT_4, a0, a1, a2, a3, a4]
            (refine Eq.trans ?_ rfl; kernel_rfl)
          · refine ⟨true, ?_⟩
            (rw [run_eq]; simp only [stepA, hx, Tryd.func67, Tryd.f67]; simp only [List.length_cons, List.length_nil, Nat.reduceAdd, Nat.reduceLeDiff, Nat.zero_le, ↓reduceIte, List.zipIdx_cons, List.zipIdx_nil, List.map_cons, List.map_nil])
            simp only [zS, wantedA, opA, eff, boxA, cells, ev, gt, pt, putO, updO, setO, okC, loadA, cutC, fieldAddrA, fieldA, indexAddrA, indexA, builtinA, callOpA, callV, target, ptrV, lenS, binA, intOp, strOp, unA, num, lk, over, allocA, pickA, buildA, fillA, convertA, extractA, ofComp, nilCheckA, makeFuncA, ptrs, ofValue, cellB, Nat.reduceAdd, Nat.reduceSub, Nat.reduceMul, Nat.reduceLT, Nat.reduceLeDiff, Nat.reduceGT, ↓reduceIte, Nat.reduceEqDiff, Nat.reduceBEq, reduceCtorEq, Int.reduceBEq, Int.reduceBNe, Int.reduceLT, Int.reduceLE, Int.reduceGT, Int.reduceGE, aggT_21, sizeT_21, bytesT_21, und_21, zero1_21, zeroT_21, aggT_4, sizeT_4, bytesT_4, und_4, zero1_4, zeroT_4, a0, a1, a2, a3, a4]
            (refine Eq.trans ?_ rfl; kernel_rfl)
theorem width_pos (s : ByteArray) (i : Nat) : 1 ≤ (Utf8.decode s i).2 := by
  unfold Utf8.decode
  dsimp only
  repeat' split
  all_goals simp
noncomputable def B76 : Code := (Tryd.f76.body.getD .skip)
noncomputable def L76 : Code := sub B76 [1, 0, 1, 0, 0]
noncomputable def K76 : List It := [.inBlock 0, .code (sub B76 [1, 1])]
def E76 : Env := [(1, .c (.fn 67 [] [])), (2, bV true), (10, .c (.rf false 0))]
theorem enter76 (hx : ext 76 = none) (s : ByteArray) (out : Option Out)
   (h : run Tryd.prog ext (.k ⟨21, 0, [.tmp 6]⟩ (.code L76 :: .inLoop L76 :: K76) E76 [.raw (.stringIter s 0)]) = out) :
   run Tryd.prog ext (.call 76 [sV s, .c (.fn 67 [] []), bV true] []) = out := by
  (rw [run_eq]; simp only [stepA, hx, Tryd.func76, Tryd.f76]; simp only [List.length_cons, List.length_nil, Nat.reduceAdd, Nat.reduceLeDiff, Nat.zero_le, ↓reduceIte, List.zipIdx_cons, List.zipIdx_nil, List.map_cons, List.map_nil])
  simp only [sV, bV]
  simp only [zS, wantedA, opA, eff, boxA, cells, ev, gt, pt, putO, updO, setO, okC, loadA, cutC, fieldAddrA, fieldA, indexAddrA, indexA, builtinA, callOpA, callV, target, ptrV, lenS, binA, intOp, strOp, unA, num, lk, over, allocA, pickA, buildA, fillA, convertA, extractA, ofComp, nilCheckA, makeFuncA, ptrs, ofValue, cellB, Nat.reduceAdd, Nat.reduceSub, Nat.reduceMul, Nat.reduceLT, Nat.reduceLeDiff, Nat.reduceGT, ↓reduceIte, Nat.reduceEqDiff, Nat.reduceBEq, reduceCtorEq, Int.reduceBEq, Int.reduceBNe, Int.reduceLT, Int.reduceLE, Int.reduceGT, Int.reduceGE, aggT_9, sizeT_9, bytesT_9, und_9, zero1_9, zeroT_9, aggT_3, sizeT_3, bytesT_3, und_3, zero1_3, zeroT_3, aggT_4, sizeT_4, bytesT_4, und_4, zero1_4, zeroT_4, rangeA, scal]
  refine (r_inLoop_some ?_).trans h
  kernel_rfl
theorem step76 (s : ByteArray) (p : Nat) (c : Bool) (hp : p < s.size) (hr : run Tryd.prog ext (.call 67 [.c (.d (.v (.int .i32 (Utf8.decode s p).1)))] []) = some (.ret [bV c] [])) (out : Option Out)
   (h : (if c then some (.ret [iV p] []) else run Tryd.prog ext (.k ⟨21, 0, [.tmp 6]⟩ (.code L76 :: .inLoop L76 :: K76) E76 [.raw (.stringIter s (p + (Utf8.decode s p).2))])) = out) :
   run Tryd.prog ext (.k ⟨21, 0, [.tmp 6]⟩ (.code L76 :: .inLoop L76 :: K76) E76 [.raw (.stringIter s p)]) = out := by
  rw [show (It.code L76) = It.code (sub B76 [1, 0, 1, 0, 0]) from rfl]
  simp only [E76, iV, bV] at h hr ⊢
  simp only [B76, K76, sub, Option.getD_some, Tryd.f76, ↓reduceIte, Nat.one_ne_zero]
  cases c with
  | true =>
    rw [if_pos rfl] at h
    simp only [zS, wantedA, opA, eff, boxA, cells, ev, gt, pt, putO, updO, setO, okC, loadA, cutC, fieldAddrA, fieldA, indexAddrA, indexA, builtinA, callOpA, callV, target, ptrV, lenS, binA, intOp, strOp, unA, num, lk, over, allocA, pickA, buildA, fillA, convertA, extractA, ofComp, nilCheckA, makeFuncA, ptrs, ofValue, cellB, Nat.reduceAdd, Nat.reduceSub, Nat.reduceMul, Nat.reduceLT, Nat.reduceLeDiff, Nat.reduceGT, ↓reduceIte, Nat.reduceEqDiff, Nat.reduceBEq, reduceCtorEq, Int.reduceBEq, Int.reduceBNe, Int.reduceLT, Int.reduceLE, Int.reduceGT, Int.reduceGE, aggT_9, sizeT_9, bytesT_9, und_9, zero1_9, zeroT_9, aggT_3, sizeT_3, bytesT_3, und_3, zero1_3, zeroT_3, aggT_4, sizeT_4, bytesT_4, und_4, zero1_4, zeroT_4, aggT_21, sizeT_21, bytesT_21, und_21, zero1_21, zeroT_21, nextA, hp, hr]
    refine Eq.trans ?_ h
    kernel_rfl
  | false =>
    rw [if_neg (by decide)] at h
    simp only [zS, wantedA, opA, eff, boxA, cells, ev, gt, pt, putO, updO, setO, okC, loadA, cutC, fieldAddrA, fieldA, indexAddrA, indexA, builtinA, callOpA, callV, target, ptrV, lenS, binA, intOp, strOp, unA, num, lk, over, allocA, pickA, buildA, fillA, convertA, extractA, ofComp, nilCheckA, makeFuncA, ptrs, ofValue, cellB, Nat.reduceAdd, Nat.reduceSub, Nat.reduceMul, Nat.reduceLT, Nat.reduceLeDiff, Nat.reduceGT, ↓reduceIte, Nat.reduceEqDiff, Nat.reduceBEq, reduceCtorEq, Int.reduceBEq, Int.reduceBNe, Int.reduceLT, Int.reduceLE, Int.reduceGT, Int.reduceGE, aggT_9, sizeT_9, bytesT_9, und_9, zero1_9, zeroT_9, aggT_3, sizeT_3, bytesT_3, und_3, zero1_3, zeroT_3, aggT_4, sizeT_4, bytesT_4, und_4, zero1_4, zeroT_4, aggT_21, sizeT_21, bytesT_21, und_21, zero1_21, zeroT_21, nextA, hp, hr]
    refine (r_inLoop_some ?_).trans h
    kernel_rfl
theorem done76 (s : ByteArray) (p : Nat) (hp : ¬ p < s.size) :
   run Tryd.prog ext (.k ⟨21, 0, [.tmp 6]⟩ (.code L76 :: .inLoop L76 :: K76) E76 [.raw (.stringIter s p)]) = some (.ret [iV (-1)] []) := by
  rw [show (It.code L76) = It.code (sub B76 [1, 0, 1, 0, 0]) from rfl]
  simp only [E76, iV, bV]
  simp only [B76, K76, sub, Option.getD_some, Tryd.f76, ↓reduceIte, Nat.one_ne_zero]
  simp only [zS, wantedA, opA, eff, boxA, cells, ev, gt, pt, putO, updO, setO, okC, loadA, cutC, fieldAddrA, fieldA, indexAddrA, indexA, builtinA, callOpA, callV, target, ptrV, lenS, binA, intOp, strOp, unA, num, lk, over, allocA, pickA, buildA, fillA, convertA, extractA, ofComp, nilCheckA, makeFuncA, ptrs, ofValue, cellB, Nat.reduceAdd, Nat.reduceSub, Nat.reduceMul, Nat.reduceLT, Nat.reduceLeDiff, Nat.reduceGT, ↓reduceIte, Nat.reduceEqDiff, Nat.reduceBEq, reduceCtorEq, Int.reduceBEq, Int.reduceBNe, Int.reduceLT, Int.reduceLE, Int.reduceGT, Int.reduceGE, aggT_9, sizeT_9, bytesT_9, und_9, zero1_9, zeroT_9, aggT_3, sizeT_3, bytesT_3, und_3, zero1_3, zeroT_3, aggT_4, sizeT_4, bytesT_4, und_4, zero1_4, zeroT_4, aggT_21, sizeT_21, bytesT_21, und_21, zero1_21, zeroT_21, nextA, hp]
  (refine Eq.trans ?_ rfl; kernel_rfl)
theorem index76 (hx : ext 76 = none) (h67 : ext 67 = none) (s : ByteArray) : ∃ i : Int, run Tryd.prog ext (.call 76 [sV s, .c (.fn 67 [] []), bV true] []) = some (.ret [iV i] []) := by
  have key : ∀ (m p : Nat), s.size ≤ p + m → ∃ i : Int, run Tryd.prog ext (.k ⟨21, 0, [.tmp 6]⟩ (.code L76 :: .inLoop L76 :: K76) E76 [.raw (.stringIter s p)]) = some (.ret [iV i] []) := by
    intro m
    induction m with
    | zero => intro p hp; exact ⟨-1, done76 ext s p (by omega)⟩
    | succ m ih =>
      intro p hp
      by_cases hlt : p < s.size
      · obtain ⟨c, hc⟩ := letter67 ext h67 (Utf8.decode s p).1
        cases c with
        | true => exact ⟨p, step76 ext s p true hlt hc _ rfl⟩
        | false =>
          obtain ⟨i, hi⟩ := ih (p + (Utf8.decode s p).2) (by have := width_pos s p; omega)
          exact ⟨i, step76 ext s p false hlt hc _ hi⟩
      · exact ⟨-1, done76 ext s p hlt⟩
  obtain ⟨i, hi⟩ := key s.size 0 (by omega)
  exact ⟨i, enter76 ext hx s _ hi⟩
theorem index66 (hx : ext 66 = none) (s : ByteArray) (i : Int) (hr : run Tryd.prog ext (.call 76 [sV s, .c (.fn 67 [] []), bV true] []) = some (.ret [iV i] [])) : run Tryd.prog ext (.call 66 [sV s, .c (.fn 67 [] [])] []) = some (.ret [iV i] []) := by
  (rw [run_eq]; simp only [stepA, hx, Tryd.func66, Tryd.f66]; simp only [List.length_cons, List.length_nil, Nat.reduceAdd, Nat.reduceLeDiff, Nat.zero_le, ↓reduceIte, List.zipIdx_cons, List.zipIdx_nil, List.map_cons, List.map_nil])
  simp only [sV, bV, iV] at hr ⊢
  simp only [zS, wantedA, opA, eff, boxA, cells, ev, gt, pt, putO, updO, setO, okC, loadA, cutC, fieldAddrA, fieldA, indexAddrA, indexA, builtinA, callOpA, callV, target, ptrV, lenS, binA, intOp, strOp, unA, num, lk, over, allocA, pickA, buildA, fillA, convertA, extractA, ofComp, nilCheckA, makeFuncA, ptrs, ofValue, cellB, Nat.reduceAdd, Nat.reduceSub, Nat.reduceMul, Nat.reduceLT, Nat.reduceLeDiff, Nat.reduceGT, ↓reduceIte, Nat.reduceEqDiff, Nat.reduceBEq, reduceCtorEq, Int.reduceBEq, Int.reduceBNe, Int.reduceLT, Int.reduceLE, Int.reduceGT, Int.reduceGE, aggT_9, sizeT_9, bytesT_9, und_9, zero1_9, zeroT_9, aggT_3, sizeT_3, bytesT_3, und_3, zero1_3, zeroT_3, aggT_4, sizeT_4, bytesT_4, und_4, zero1_4, zeroT_4, hr]
  (refine Eq.trans ?_ rfl; kernel_rfl)
theorem isName52 (hx : ext 52 = none) (h66 : ext 66 = none) (h76 : ext 76 = none) (h67 : ext 67 = none) (s : ByteArray) : ∃ b, run Tryd.prog ext (.call 52 [sV s] []) = some (.ret [bV b] []) := by
  obtain ⟨i, hi⟩ := index76 ext h76 h67 s
  have hr := index66 ext h66 s i hi
  simp only [sV, bV, iV] at hr ⊢
  have z0 : (0 : Int) ≤ 0 := Int.le_refl _
  by_cases h0 : s.size = 0
  · have h : (s.toList == (⟨#[]⟩ : ByteArray).toList) = true := by rw [toList_nil]; simp [h0]
    refine ⟨false, ?_⟩
    (rw [run_eq]; simp only [stepA, hx, Tryd.func52, Tryd.f52]; simp only [List.length_cons, List.length_nil, Nat.reduceAdd, Nat.reduceLeDiff, Nat.zero_le, ↓reduceIte, List.zipIdx_cons, List.zipIdx_nil, List.map_cons, List.map_nil])
    simp only [zS, wantedA, opA, eff, boxA, cells, ev, gt, pt, putO, updO, setO, okC, loadA, cutC, fieldAddrA, fieldA, indexAddrA, indexA, builtinA, callOpA, callV, target, ptrV, lenS, binA, intOp, strOp, unA, num, lk, over, allocA, pickA, buildA, fillA, convertA, extractA, ofComp, nilCheckA, makeFuncA, ptrs, ofValue, cellB, Nat.reduceAdd, Nat.reduceSub, Nat.reduceMul, Nat.reduceLT, Nat.reduceLeDiff, Nat.reduceGT, ↓reduceIte, Nat.reduceEqDiff, Nat.reduceBEq, reduceCtorEq, Int.reduceBEq, Int.reduceBNe, Int.reduceLT, Int.reduceLE, Int.reduceGT, Int.reduceGE, aggT_9, sizeT_9, bytesT_9, und_9, zero1_9, zeroT_9, aggT_3, sizeT_3, bytesT_3, und_3, zero1_3, zeroT_3, aggT_4, sizeT_4, bytesT_4, und_4, zero1_4, zeroT_4, aggT_5, sizeT_5, bytesT_5, und_5, zero1_5, zeroT_5, h]
    (refine Eq.trans ?_ rfl; kernel_rfl)
  have h : (s.toList == (⟨#[]⟩ : ByteArray).toList) = false := by rw [toList_nil]; simp [h0]
  have hb : s[(0 : Int).toNat]? = some s[0] := by simp [getElem?_pos s 0 (by omega)]
  by_cases h1 : (s.size : Int) > 24
  · refine ⟨false, ?_⟩
    (rw [run_eq]; simp only [stepA, hx, Tryd.func52, Tryd.f52]; simp only [List.length_cons, List.length_nil, Nat.reduceAdd, Nat.reduceLeDiff, Nat.zero_le, ↓reduceIte, List.zipIdx_cons, List.zipIdx_nil, List.map_cons, List.map_nil])
    simp only [zS, wantedA, opA, eff, boxA, cells, ev, gt, pt, putO, updO, setO, okC, loadA, cutC, fieldAddrA, fieldA, indexAddrA, indexA, builtinA, callOpA, callV, target, ptrV, lenS, binA, intOp, strOp, unA, num, lk, over, allocA, pickA, buildA, fillA, convertA, extractA, ofComp, nilCheckA, makeFuncA, ptrs, ofValue, cellB, Nat.reduceAdd, Nat.reduceSub, Nat.reduceMul, Nat.reduceLT, Nat.reduceLeDiff, Nat.reduceGT, ↓reduceIte, Nat.reduceEqDiff, Nat.reduceBEq, reduceCtorEq, Int.reduceBEq, Int.reduceBNe, Int.reduceLT, Int.reduceLE, Int.reduceGT, Int.reduceGE, aggT_9, sizeT_9, bytesT_9, und_9, zero1_9, zeroT_9, aggT_3, sizeT_3, bytesT_3, und_3, zero1_3, zeroT_3, aggT_4, sizeT_4, bytesT_4, und_4, zero1_4, zeroT_4, aggT_5, sizeT_5, bytesT_5, und_5, zero1_5, zeroT_5, h, h1]
    (refine Eq.trans ?_ rfl; kernel_rfl)
  by_cases h2 : ((s[0]).toNat : Int) = 46
  · refine ⟨false, ?_⟩
    (rw [run_eq]; simp only [stepA, hx, Tryd.func52, Tryd.f52]; simp only [List.length_cons, List.length_nil, Nat.reduceAdd, Nat.reduceLeDiff, Nat.zero_le, ↓reduceIte, List.zipIdx_cons, List.zipIdx_nil, List.map_cons, List.map_nil])
    simp only [zS, wantedA, opA, eff, boxA, cells, ev, gt, pt, putO, updO, setO, okC, loadA, cutC, fieldAddrA, fieldA, indexAddrA, indexA, builtinA, callOpA, callV, target, ptrV, lenS, binA, intOp, strOp, unA, num, lk, over, allocA, pickA, buildA, fillA, convertA, extractA, ofComp, nilCheckA, makeFuncA, ptrs, ofValue, cellB, Nat.reduceAdd, Nat.reduceSub, Nat.reduceMul, Nat.reduceLT, Nat.reduceLeDiff, Nat.reduceGT, ↓reduceIte, Nat.reduceEqDiff, Nat.reduceBEq, reduceCtorEq, Int.reduceBEq, Int.reduceBNe, Int.reduceLT, Int.reduceLE, Int.reduceGT, Int.reduceGE, aggT_9, sizeT_9, bytesT_9, und_9, zero1_9, zeroT_9, aggT_3, sizeT_3, bytesT_3, und_3, zero1_3, zeroT_3, aggT_4, sizeT_4, bytesT_4, und_4, zero1_4, zeroT_4, aggT_5, sizeT_5, bytesT_5, und_5, zero1_5, zeroT_5, h, h1, hb, h2, z0]
    (refine Eq.trans ?_ rfl; kernel_rfl)
  by_cases h3 : ((s[0]).toNat : Int) ≥ 48
  · by_cases h4 : ((s[0]).toNat : Int) ≤ 57
    · refine ⟨false, ?_⟩
      (rw [run_eq]; simp only [stepA, hx, Tryd.func52, Tryd.f52]; simp only [List.length_cons, List.length_nil, Nat.reduceAdd, Nat.reduceLeDiff, Nat.zero_le, ↓reduceIte, List.zipIdx_cons, List.zipIdx_nil, List.map_cons, List.map_nil])
      simp only [zS, wantedA, opA, eff, boxA, cells, ev, gt, pt, putO, updO, setO, okC, loadA, cutC, fieldAddrA, fieldA, indexAddrA, indexA, builtinA, callOpA, callV, target, ptrV, lenS, binA, intOp, strOp, unA, num, lk, over, allocA, pickA, buildA, fillA, convertA, extractA, ofComp, nilCheckA, makeFuncA, ptrs, ofValue, cellB, Nat.reduceAdd, Nat.reduceSub, Nat.reduceMul, Nat.reduceLT, Nat.reduceLeDiff, Nat.reduceGT, ↓reduceIte, Nat.reduceEqDiff, Nat.reduceBEq, reduceCtorEq, Int.reduceBEq, Int.reduceBNe, Int.reduceLT, Int.reduceLE, Int.reduceGT, Int.reduceGE, aggT_9, sizeT_9, bytesT_9, und_9, zero1_9, zeroT_9, aggT_3, sizeT_3, bytesT_3, und_3, zero1_3, zeroT_3, aggT_4, sizeT_4, bytesT_4, und_4, zero1_4, zeroT_4, aggT_5, sizeT_5, bytesT_5, und_5, zero1_5, zeroT_5, h, h1, hb, h2, h3, h4, z0]
      (refine Eq.trans ?_ rfl; kernel_rfl)
    · refine ⟨decide (i < 0), ?_⟩
      (rw [run_eq]; simp only [stepA, hx, Tryd.func52, Tryd.f52]; simp only [List.length_cons, List.length_nil, Nat.reduceAdd, Nat.reduceLeDiff, Nat.zero_le, ↓reduceIte, List.zipIdx_cons, List.zipIdx_nil, List.map_cons, List.map_nil])
      simp only [zS, wantedA, opA, eff, boxA, cells, ev, gt, pt, putO, updO, setO, okC, loadA, cutC, fieldAddrA, fieldA, indexAddrA, indexA, builtinA, callOpA, callV, target, ptrV, lenS, binA, intOp, strOp, unA, num, lk, over, allocA, pickA, buildA, fillA, convertA, extractA, ofComp, nilCheckA, makeFuncA, ptrs, ofValue, cellB, Nat.reduceAdd, Nat.reduceSub, Nat.reduceMul, Nat.reduceLT, Nat.reduceLeDiff, Nat.reduceGT, ↓reduceIte, Nat.reduceEqDiff, Nat.reduceBEq, reduceCtorEq, Int.reduceBEq, Int.reduceBNe, Int.reduceLT, Int.reduceLE, Int.reduceGT, Int.reduceGE, aggT_9, sizeT_9, bytesT_9, und_9, zero1_9, zeroT_9, aggT_3, sizeT_3, bytesT_3, und_3, zero1_3, zeroT_3, aggT_4, sizeT_4, bytesT_4, und_4, zero1_4, zeroT_4, aggT_5, sizeT_5, bytesT_5, und_5, zero1_5, zeroT_5, h, h1, hb, h2, h3, h4, z0, hr]
      (refine Eq.trans ?_ rfl; kernel_rfl)
  · refine ⟨decide (i < 0), ?_⟩
    (rw [run_eq]; simp only [stepA, hx, Tryd.func52, Tryd.f52]; simp only [List.length_cons, List.length_nil, Nat.reduceAdd, Nat.reduceLeDiff, Nat.zero_le, ↓reduceIte, List.zipIdx_cons, List.zipIdx_nil, List.map_cons, List.map_nil])
    simp only [zS, wantedA, opA, eff, boxA, cells, ev, gt, pt, putO, updO, setO, okC, loadA, cutC, fieldAddrA, fieldA, indexAddrA, indexA, builtinA, callOpA, callV, target, ptrV, lenS, binA, intOp, strOp, unA, num, lk, over, allocA, pickA, buildA, fillA, convertA, extractA, ofComp, nilCheckA, makeFuncA, ptrs, ofValue, cellB, Nat.reduceAdd, Nat.reduceSub, Nat.reduceMul, Nat.reduceLT, Nat.reduceLeDiff, Nat.reduceGT, ↓reduceIte, Nat.reduceEqDiff, Nat.reduceBEq, reduceCtorEq, Int.reduceBEq, Int.reduceBNe, Int.reduceLT, Int.reduceLE, Int.reduceGT, Int.reduceGE, aggT_9, sizeT_9, bytesT_9, und_9, zero1_9, zeroT_9, aggT_3, sizeT_3, bytesT_3, und_3, zero1_3, zeroT_3, aggT_4, sizeT_4, bytesT_4, und_4, zero1_4, zeroT_4, aggT_5, sizeT_5, bytesT_5, und_5, zero1_5, zeroT_5, h, h1, hb, h2, h3, z0, hr]
    (refine Eq.trans ?_ rfl; kernel_rfl)
end Go.Proofs.YtmjacokkgfophaaDoor.Am
end
section
/- formed: true only of a node that has its form. -/
namespace Go.Proofs.YtmjacokkgfophaaDoor.Am
open Go
variable (ext : Ext)
set_option maxHeartbeats 4000000
set_option maxRecDepth 10000
theorem snil_eq (s : ByteArray) : (s.toList == (⟨#[]⟩ : ByteArray).toList) = true → s.size = 0 := by rw [toList_nil]; simp
theorem formed37_1 (hx : ext 37 = none)  (x : Cd) (ho : x.op = 1) : ∃ b, run Tryd.prog ext (.call 37 [cdV x] []) = some (.ret [bV b] []) ∧ (b = true → (x.l.length : Int) = 0 ∧ 0 ≤ x.n) := by
  by_cases h1 : (x.l.length : Int) = 0
  · by_cases h2 : x.n < 0
    · refine ⟨false, ?_, ?_⟩
      · (rw [run_eq]; simp only [stepA, hx, Tryd.func37, Tryd.f37]; simp only [List.length_cons, List.length_nil, Nat.reduceAdd, Nat.reduceLeDiff, Nat.zero_le, ↓reduceIte, List.zipIdx_cons, List.zipIdx_nil, List.map_cons, List.map_nil])
        simp only [zS, wantedA, opA, eff, boxA, cells, ev, gt, pt, putO, updO, setO, okC, loadA, cutC, fieldAddrA, fieldA, indexAddrA, indexA, builtinA, callOpA, callV, target, ptrV, lenS, binA, intOp, strOp, unA, num, lk, over, allocA, pickA, buildA, fillA, convertA, extractA, ofComp, nilCheckA, makeFuncA, ptrs, ofValue, cellB, Nat.reduceAdd, Nat.reduceSub, Nat.reduceMul, Nat.reduceLT, Nat.reduceLeDiff, Nat.reduceGT, ↓reduceIte, Nat.reduceEqDiff, Nat.reduceBEq, reduceCtorEq, Int.reduceBEq, Int.reduceBNe, Int.reduceLT, Int.reduceLE, Int.reduceGT, Int.reduceGE, aggT_25, sizeT_25, bytesT_25, fieldT_25_0, fieldT_25_1, fieldT_25_2, fieldT_25_3, placesT_25, zeroT_25, aggT_23, sizeT_23, bytesT_23, und_23, elemT_23, zero1_23, zeroT_23, aggT_71, sizeT_71, bytesT_71, und_71, zero1_71, zeroT_71, aggT_9, sizeT_9, bytesT_9, und_9, zero1_9, zeroT_9, aggT_3, sizeT_3, bytesT_3, und_3, zero1_3, zeroT_3, aggT_4, sizeT_4, bytesT_4, und_4, zero1_4, zeroT_4, makeMapA, mapUpdateA, lookupA, pairV, keyA, isKeyB, scal, Instr.findNow, Instr.sameNow, List.push_toArray, cellB, cdV, cdC, bV, iV, ho, h1, h2]
        (refine Eq.trans ?_ rfl; kernel_rfl)
      · intro h; cases h
    · by_cases h3 : x.n > 0
      · refine ⟨x.s.toList == (⟨#[]⟩ : ByteArray).toList, ?_, ?_⟩
        · (rw [run_eq]; simp only [stepA, hx, Tryd.func37, Tryd.f37]; simp only [List.length_cons, List.length_nil, Nat.reduceAdd, Nat.reduceLeDiff, Nat.zero_le, ↓reduceIte, List.zipIdx_cons, List.zipIdx_nil, List.map_cons, List.map_nil])
          simp only [zS, wantedA, opA, eff, boxA, cells, ev, gt, pt, putO, updO, setO, okC, loadA, cutC, fieldAddrA, fieldA, indexAddrA, indexA, builtinA, callOpA, callV, target, ptrV, lenS, binA, intOp, strOp, unA, num, lk, over, allocA, pickA, buildA, fillA, convertA, extractA, ofComp, nilCheckA, makeFuncA, ptrs, ofValue, cellB, Nat.reduceAdd, Nat.reduceSub, Nat.reduceMul, Nat.reduceLT, Nat.reduceLeDiff, Nat.reduceGT, ↓reduceIte, Nat.reduceEqDiff, Nat.reduceBEq, reduceCtorEq, Int.reduceBEq, Int.reduceBNe, Int.reduceLT, Int.reduceLE, Int.reduceGT, Int.reduceGE, aggT_25, sizeT_25, bytesT_25, fieldT_25_0, fieldT_25_1, fieldT_25_2, fieldT_25_3, placesT_25, zeroT_25, aggT_23, sizeT_23, bytesT_23, und_23, elemT_23, zero1_23, zeroT_23, aggT_71, sizeT_71, bytesT_71, und_71, zero1_71, zeroT_71, aggT_9, sizeT_9, bytesT_9, und_9, zero1_9, zeroT_9, aggT_3, sizeT_3, bytesT_3, und_3, zero1_3, zeroT_3, aggT_4, sizeT_4, bytesT_4, und_4, zero1_4, zeroT_4, makeMapA, mapUpdateA, lookupA, pairV, keyA, isKeyB, scal, Instr.findNow, Instr.sameNow, List.push_toArray, cellB, cdV, cdC, bV, iV, ho, h1, h2, h3]
          (refine Eq.trans ?_ rfl; kernel_rfl)
        · intro _; exact ⟨h1, by omega⟩
      · refine ⟨x.s.toList == (⟨#[]⟩ : ByteArray).toList, ?_, ?_⟩
        · (rw [run_eq]; simp only [stepA, hx, Tryd.func37, Tryd.f37]; simp only [List.length_cons, List.length_nil, Nat.reduceAdd, Nat.reduceLeDiff, Nat.zero_le, ↓reduceIte, List.zipIdx_cons, List.zipIdx_nil, List.map_cons, List.map_nil])
          simp only [zS, wantedA, opA, eff, boxA, cells, ev, gt, pt, putO, updO, setO, okC, loadA, cutC, fieldAddrA, fieldA, indexAddrA, indexA, builtinA, callOpA, callV, target, ptrV, lenS, binA, intOp, strOp, unA, num, lk, over, allocA, pickA, buildA, fillA, convertA, extractA, ofComp, nilCheckA, makeFuncA, ptrs, ofValue, cellB, Nat.reduceAdd, Nat.reduceSub, Nat.reduceMul, Nat.reduceLT, Nat.reduceLeDiff, Nat.reduceGT, ↓reduceIte, Nat.reduceEqDiff, Nat.reduceBEq, reduceCtorEq, Int.reduceBEq, Int.reduceBNe, Int.reduceLT, Int.reduceLE, Int.reduceGT, Int.reduceGE, aggT_25, sizeT_25, bytesT_25, fieldT_25_0, fieldT_25_1, fieldT_25_2, fieldT_25_3, placesT_25, zeroT_25, aggT_23, sizeT_23, bytesT_23, und_23, elemT_23, zero1_23, zeroT_23, aggT_71, sizeT_71, bytesT_71, und_71, zero1_71, zeroT_71, aggT_9, sizeT_9, bytesT_9, und_9, zero1_9, zeroT_9, aggT_3, sizeT_3, bytesT_3, und_3, zero1_3, zeroT_3, aggT_4, sizeT_4, bytesT_4, und_4, zero1_4, zeroT_4, makeMapA, mapUpdateA, lookupA, pairV, keyA, isKeyB, scal, Instr.findNow, Instr.sameNow, List.push_toArray, cellB, cdV, cdC, bV, iV, ho, h1, h2, h3]
          (refine Eq.trans ?_ rfl; kernel_rfl)
        · intro _; exact ⟨h1, by omega⟩
  · refine ⟨false, ?_, ?_⟩
    · (rw [run_eq]; simp only [stepA, hx, Tryd.func37, Tryd.f37]; simp only [List.length_cons, List.length_nil, Nat.reduceAdd, Nat.reduceLeDiff, Nat.zero_le, ↓reduceIte, List.zipIdx_cons, List.zipIdx_nil, List.map_cons, List.map_nil])
      simp only [zS, wantedA, opA, eff, boxA, cells, ev, gt, pt, putO, updO, setO, okC, loadA, cutC, fieldAddrA, fieldA, indexAddrA, indexA, builtinA, callOpA, callV, target, ptrV, lenS, binA, intOp, strOp, unA, num, lk, over, allocA, pickA, buildA, fillA, convertA, extractA, ofComp, nilCheckA, makeFuncA, ptrs, ofValue, cellB, Nat.reduceAdd, Nat.reduceSub, Nat.reduceMul, Nat.reduceLT, Nat.reduceLeDiff, Nat.reduceGT, ↓reduceIte, Nat.reduceEqDiff, Nat.reduceBEq, reduceCtorEq, Int.reduceBEq, Int.reduceBNe, Int.reduceLT, Int.reduceLE, Int.reduceGT, Int.reduceGE, aggT_25, sizeT_25, bytesT_25, fieldT_25_0, fieldT_25_1, fieldT_25_2, fieldT_25_3, placesT_25, zeroT_25, aggT_23, sizeT_23, bytesT_23, und_23, elemT_23, zero1_23, zeroT_23, aggT_71, sizeT_71, bytesT_71, und_71, zero1_71, zeroT_71, aggT_9, sizeT_9, bytesT_9, und_9, zero1_9, zeroT_9, aggT_3, sizeT_3, bytesT_3, und_3, zero1_3, zeroT_3, aggT_4, sizeT_4, bytesT_4, und_4, zero1_4, zeroT_4, makeMapA, mapUpdateA, lookupA, pairV, keyA, isKeyB, scal, Instr.findNow, Instr.sameNow, List.push_toArray, cellB, cdV, cdC, bV, iV, ho, h1]
      (refine Eq.trans ?_ rfl; kernel_rfl)
    · intro h; cases h
theorem formed37_2 (hx : ext 37 = none)  (x : Cd) (ho : x.op = 2) : ∃ b, run Tryd.prog ext (.call 37 [cdV x] []) = some (.ret [bV b] []) ∧ (b = true → (x.l.length : Int) = 1 ∧ 0 ≤ x.n) := by
  by_cases h1 : (x.l.length : Int) = 1
  · by_cases h2 : x.n < 0
    · refine ⟨false, ?_, ?_⟩
      · (rw [run_eq]; simp only [stepA, hx, Tryd.func37, Tryd.f37]; simp only [List.length_cons, List.length_nil, Nat.reduceAdd, Nat.reduceLeDiff, Nat.zero_le, ↓reduceIte, List.zipIdx_cons, List.zipIdx_nil, List.map_cons, List.map_nil])
        simp only [zS, wantedA, opA, eff, boxA, cells, ev, gt, pt, putO, updO, setO, okC, loadA, cutC, fieldAddrA, fieldA, indexAddrA, indexA, builtinA, callOpA, callV, target, ptrV, lenS, binA, intOp, strOp, unA, num, lk, over, allocA, pickA, buildA, fillA, convertA, extractA, ofComp, nilCheckA, makeFuncA, ptrs, ofValue, cellB, Nat.reduceAdd, Nat.reduceSub, Nat.reduceMul, Nat.reduceLT, Nat.reduceLeDiff, Nat.reduceGT, ↓reduceIte, Nat.reduceEqDiff, Nat.reduceBEq, reduceCtorEq, Int.reduceBEq, Int.reduceBNe, Int.reduceLT, Int.reduceLE, Int.reduceGT, Int.reduceGE, aggT_25, sizeT_25, bytesT_25, fieldT_25_0, fieldT_25_1, fieldT_25_2, fieldT_25_3, placesT_25, zeroT_25, aggT_23, sizeT_23, bytesT_23, und_23, elemT_23, zero1_23, zeroT_23, aggT_71, sizeT_71, bytesT_71, und_71, zero1_71, zeroT_71, aggT_9, sizeT_9, bytesT_9, und_9, zero1_9, zeroT_9, aggT_3, sizeT_3, bytesT_3, und_3, zero1_3, zeroT_3, aggT_4, sizeT_4, bytesT_4, und_4, zero1_4, zeroT_4, makeMapA, mapUpdateA, lookupA, pairV, keyA, isKeyB, scal, Instr.findNow, Instr.sameNow, List.push_toArray, cellB, cdV, cdC, bV, iV, ho, h1, h2]
        (refine Eq.trans ?_ rfl; kernel_rfl)
      · intro h; cases h
    · by_cases h3 : x.n > 0
      · refine ⟨false, ?_, ?_⟩
        · (rw [run_eq]; simp only [stepA, hx, Tryd.func37, Tryd.f37]; simp only [List.length_cons, List.length_nil, Nat.reduceAdd, Nat.reduceLeDiff, Nat.zero_le, ↓reduceIte, List.zipIdx_cons, List.zipIdx_nil, List.map_cons, List.map_nil])
          simp only [zS, wantedA, opA, eff, boxA, cells, ev, gt, pt, putO, updO, setO, okC, loadA, cutC, fieldAddrA, fieldA, indexAddrA, indexA, builtinA, callOpA, callV, target, ptrV, lenS, binA, intOp, strOp, unA, num, lk, over, allocA, pickA, buildA, fillA, convertA, extractA, ofComp, nilCheckA, makeFuncA, ptrs, ofValue, cellB, Nat.reduceAdd, Nat.reduceSub, Nat.reduceMul, Nat.reduceLT, Nat.reduceLeDiff, Nat.reduceGT, ↓reduceIte, Nat.reduceEqDiff, Nat.reduceBEq, reduceCtorEq, Int.reduceBEq, Int.reduceBNe, Int.reduceLT, Int.reduceLE, Int.reduceGT, Int.reduceGE, aggT_25, sizeT_25, bytesT_25, fieldT_25_0, fieldT_25_1, fieldT_25_2, fieldT_25_3, placesT_25, zeroT_25, aggT_23, sizeT_23, bytesT_23, und_23, elemT_23, zero1_23, zeroT_23, aggT_71, sizeT_71, bytesT_71, und_71, zero1_71, zeroT_71, aggT_9, sizeT_9, bytesT_9, und_9, zero1_9, zeroT_9, aggT_3, sizeT_3, bytesT_3, und_3, zero1_3, zeroT_3, aggT_4, sizeT_4, bytesT_4, und_4, zero1_4, zeroT_4, makeMapA, mapUpdateA, lookupA, pairV, keyA, isKeyB, scal, Instr.findNow, Instr.sameNow, List.push_toArray, cellB, cdV, cdC, bV, iV, ho, h1, h2, h3]
          (refine Eq.trans ?_ rfl; kernel_rfl)
        · intro h; cases h
      · refine ⟨x.s.toList == (⟨#[]⟩ : ByteArray).toList, ?_, ?_⟩
        · (rw [run_eq]; simp only [stepA, hx, Tryd.func37, Tryd.f37]; simp only [List.length_cons, List.length_nil, Nat.reduceAdd, Nat.reduceLeDiff, Nat.zero_le, ↓reduceIte, List.zipIdx_cons, List.zipIdx_nil, List.map_cons, List.map_nil])
          simp only [zS, wantedA, opA, eff, boxA, cells, ev, gt, pt, putO, updO, setO, okC, loadA, cutC, fieldAddrA, fieldA, indexAddrA, indexA, builtinA, callOpA, callV, target, ptrV, lenS, binA, intOp, strOp, unA, num, lk, over, allocA, pickA, buildA, fillA, convertA, extractA, ofComp, nilCheckA, makeFuncA, ptrs, ofValue, cellB, Nat.reduceAdd, Nat.reduceSub, Nat.reduceMul, Nat.reduceLT, Nat.reduceLeDiff, Nat.reduceGT, ↓reduceIte, Nat.reduceEqDiff, Nat.reduceBEq, reduceCtorEq, Int.reduceBEq, Int.reduceBNe, Int.reduceLT, Int.reduceLE, Int.reduceGT, Int.reduceGE, aggT_25, sizeT_25, bytesT_25, fieldT_25_0, fieldT_25_1, fieldT_25_2, fieldT_25_3, placesT_25, zeroT_25, aggT_23, sizeT_23, bytesT_23, und_23, elemT_23, zero1_23, zeroT_23, aggT_71, sizeT_71, bytesT_71, und_71, zero1_71, zeroT_71, aggT_9, sizeT_9, bytesT_9, und_9, zero1_9, zeroT_9, aggT_3, sizeT_3, bytesT_3, und_3, zero1_3, zeroT_3, aggT_4, sizeT_4, bytesT_4, und_4, zero1_4, zeroT_4, makeMapA, mapUpdateA, lookupA, pairV, keyA, isKeyB, scal, Instr.findNow, Instr.sameNow, List.push_toArray, cellB, cdV, cdC, bV, iV, ho, h1, h2, h3]
          (refine Eq.trans ?_ rfl; kernel_rfl)
        · intro _; exact ⟨h1, by omega⟩
  · refine ⟨false, ?_, ?_⟩
    · (rw [run_eq]; simp only [stepA, hx, Tryd.func37, Tryd.f37]; simp only [List.length_cons, List.length_nil, Nat.reduceAdd, Nat.reduceLeDiff, Nat.zero_le, ↓reduceIte, List.zipIdx_cons, List.zipIdx_nil, List.map_cons, List.map_nil])
      simp only [zS, wantedA, opA, eff, boxA, cells, ev, gt, pt, putO, updO, setO, okC, loadA, cutC, fieldAddrA, fieldA, indexAddrA, indexA, builtinA, callOpA, callV, target, ptrV, lenS, binA, intOp, strOp, unA, num, lk, over, allocA, pickA, buildA, fillA, convertA, extractA, ofComp, nilCheckA, makeFuncA, ptrs, ofValue, cellB, Nat.reduceAdd, Nat.reduceSub, Nat.reduceMul, Nat.reduceLT, Nat.reduceLeDiff, Nat.reduceGT, ↓reduceIte, Nat.reduceEqDiff, Nat.reduceBEq, reduceCtorEq, Int.reduceBEq, Int.reduceBNe, Int.reduceLT, Int.reduceLE, Int.reduceGT, Int.reduceGE, aggT_25, sizeT_25, bytesT_25, fieldT_25_0, fieldT_25_1, fieldT_25_2, fieldT_25_3, placesT_25, zeroT_25, aggT_23, sizeT_23, bytesT_23, und_23, elemT_23, zero1_23, zeroT_23, aggT_71, sizeT_71, bytesT_71, und_71, zero1_71, zeroT_71, aggT_9, sizeT_9, bytesT_9, und_9, zero1_9, zeroT_9, aggT_3, sizeT_3, bytesT_3, und_3, zero1_3, zeroT_3, aggT_4, sizeT_4, bytesT_4, und_4, zero1_4, zeroT_4, makeMapA, mapUpdateA, lookupA, pairV, keyA, isKeyB, scal, Instr.findNow, Instr.sameNow, List.push_toArray, cellB, cdV, cdC, bV, iV, ho, h1]
      (refine Eq.trans ?_ rfl; kernel_rfl)
    · intro h; cases h
theorem formed37_3 (hx : ext 37 = none)  (x : Cd) (ho : x.op = 3) : ∃ b, run Tryd.prog ext (.call 37 [cdV x] []) = some (.ret [bV b] []) ∧ (b = true → (x.l.length : Int) = 2 ∧ 0 ≤ x.n) := by
  by_cases h1 : (x.l.length : Int) = 2
  · by_cases h2 : x.n < 0
    · refine ⟨false, ?_, ?_⟩
      · (rw [run_eq]; simp only [stepA, hx, Tryd.func37, Tryd.f37]; simp only [List.length_cons, List.length_nil, Nat.reduceAdd, Nat.reduceLeDiff, Nat.zero_le, ↓reduceIte, List.zipIdx_cons, List.zipIdx_nil, List.map_cons, List.map_nil])
        simp only [zS, wantedA, opA, eff, boxA, cells, ev, gt, pt, putO, updO, setO, okC, loadA, cutC, fieldAddrA, fieldA, indexAddrA, indexA, builtinA, callOpA, callV, target, ptrV, lenS, binA, intOp, strOp, unA, num, lk, over, allocA, pickA, buildA, fillA, convertA, extractA, ofComp, nilCheckA, makeFuncA, ptrs, ofValue, cellB, Nat.reduceAdd, Nat.reduceSub, Nat.reduceMul, Nat.reduceLT, Nat.reduceLeDiff, Nat.reduceGT, ↓reduceIte, Nat.reduceEqDiff, Nat.reduceBEq, reduceCtorEq, Int.reduceBEq, Int.reduceBNe, Int.reduceLT, Int.reduceLE, Int.reduceGT, Int.reduceGE, aggT_25, sizeT_25, bytesT_25, fieldT_25_0, fieldT_25_1, fieldT_25_2, fieldT_25_3, placesT_25, zeroT_25, aggT_23, sizeT_23, bytesT_23, und_23, elemT_23, zero1_23, zeroT_23, aggT_71, sizeT_71, bytesT_71, und_71, zero1_71, zeroT_71, aggT_9, sizeT_9, bytesT_9, und_9, zero1_9, zeroT_9, aggT_3, sizeT_3, bytesT_3, und_3, zero1_3, zeroT_3, aggT_4, sizeT_4, bytesT_4, und_4, zero1_4, zeroT_4, makeMapA, mapUpdateA, lookupA, pairV, keyA, isKeyB, scal, Instr.findNow, Instr.sameNow, List.push_toArray, cellB, cdV, cdC, bV, iV, ho, h1, h2]
        (refine Eq.trans ?_ rfl; kernel_rfl)
      · intro h; cases h
    · by_cases h3 : x.n > 0
      · refine ⟨false, ?_, ?_⟩
        · (rw [run_eq]; simp only [stepA, hx, Tryd.func37, Tryd.f37]; simp only [List.length_cons, List.length_nil, Nat.reduceAdd, Nat.reduceLeDiff, Nat.zero_le, ↓reduceIte, List.zipIdx_cons, List.zipIdx_nil, List.map_cons, List.map_nil])
          simp only [zS, wantedA, opA, eff, boxA, cells, ev, gt, pt, putO, updO, setO, okC, loadA, cutC, fieldAddrA, fieldA, indexAddrA, indexA, builtinA, callOpA, callV, target, ptrV, lenS, binA, intOp, strOp, unA, num, lk, over, allocA, pickA, buildA, fillA, convertA, extractA, ofComp, nilCheckA, makeFuncA, ptrs, ofValue, cellB, Nat.reduceAdd, Nat.reduceSub, Nat.reduceMul, Nat.reduceLT, Nat.reduceLeDiff, Nat.reduceGT, ↓reduceIte, Nat.reduceEqDiff, Nat.reduceBEq, reduceCtorEq, Int.reduceBEq, Int.reduceBNe, Int.reduceLT, Int.reduceLE, Int.reduceGT, Int.reduceGE, aggT_25, sizeT_25, bytesT_25, fieldT_25_0, fieldT_25_1, fieldT_25_2, fieldT_25_3, placesT_25, zeroT_25, aggT_23, sizeT_23, bytesT_23, und_23, elemT_23, zero1_23, zeroT_23, aggT_71, sizeT_71, bytesT_71, und_71, zero1_71, zeroT_71, aggT_9, sizeT_9, bytesT_9, und_9, zero1_9, zeroT_9, aggT_3, sizeT_3, bytesT_3, und_3, zero1_3, zeroT_3, aggT_4, sizeT_4, bytesT_4, und_4, zero1_4, zeroT_4, makeMapA, mapUpdateA, lookupA, pairV, keyA, isKeyB, scal, Instr.findNow, Instr.sameNow, List.push_toArray, cellB, cdV, cdC, bV, iV, ho, h1, h2, h3]
          (refine Eq.trans ?_ rfl; kernel_rfl)
        · intro h; cases h
      · refine ⟨x.s.toList == (⟨#[]⟩ : ByteArray).toList, ?_, ?_⟩
        · (rw [run_eq]; simp only [stepA, hx, Tryd.func37, Tryd.f37]; simp only [List.length_cons, List.length_nil, Nat.reduceAdd, Nat.reduceLeDiff, Nat.zero_le, ↓reduceIte, List.zipIdx_cons, List.zipIdx_nil, List.map_cons, List.map_nil])
          simp only [zS, wantedA, opA, eff, boxA, cells, ev, gt, pt, putO, updO, setO, okC, loadA, cutC, fieldAddrA, fieldA, indexAddrA, indexA, builtinA, callOpA, callV, target, ptrV, lenS, binA, intOp, strOp, unA, num, lk, over, allocA, pickA, buildA, fillA, convertA, extractA, ofComp, nilCheckA, makeFuncA, ptrs, ofValue, cellB, Nat.reduceAdd, Nat.reduceSub, Nat.reduceMul, Nat.reduceLT, Nat.reduceLeDiff, Nat.reduceGT, ↓reduceIte, Nat.reduceEqDiff, Nat.reduceBEq, reduceCtorEq, Int.reduceBEq, Int.reduceBNe, Int.reduceLT, Int.reduceLE, Int.reduceGT, Int.reduceGE, aggT_25, sizeT_25, bytesT_25, fieldT_25_0, fieldT_25_1, fieldT_25_2, fieldT_25_3, placesT_25, zeroT_25, aggT_23, sizeT_23, bytesT_23, und_23, elemT_23, zero1_23, zeroT_23, aggT_71, sizeT_71, bytesT_71, und_71, zero1_71, zeroT_71, aggT_9, sizeT_9, bytesT_9, und_9, zero1_9, zeroT_9, aggT_3, sizeT_3, bytesT_3, und_3, zero1_3, zeroT_3, aggT_4, sizeT_4, bytesT_4, und_4, zero1_4, zeroT_4, makeMapA, mapUpdateA, lookupA, pairV, keyA, isKeyB, scal, Instr.findNow, Instr.sameNow, List.push_toArray, cellB, cdV, cdC, bV, iV, ho, h1, h2, h3]
          (refine Eq.trans ?_ rfl; kernel_rfl)
        · intro _; exact ⟨h1, by omega⟩
  · refine ⟨false, ?_, ?_⟩
    · (rw [run_eq]; simp only [stepA, hx, Tryd.func37, Tryd.f37]; simp only [List.length_cons, List.length_nil, Nat.reduceAdd, Nat.reduceLeDiff, Nat.zero_le, ↓reduceIte, List.zipIdx_cons, List.zipIdx_nil, List.map_cons, List.map_nil])
      simp only [zS, wantedA, opA, eff, boxA, cells, ev, gt, pt, putO, updO, setO, okC, loadA, cutC, fieldAddrA, fieldA, indexAddrA, indexA, builtinA, callOpA, callV, target, ptrV, lenS, binA, intOp, strOp, unA, num, lk, over, allocA, pickA, buildA, fillA, convertA, extractA, ofComp, nilCheckA, makeFuncA, ptrs, ofValue, cellB, Nat.reduceAdd, Nat.reduceSub, Nat.reduceMul, Nat.reduceLT, Nat.reduceLeDiff, Nat.reduceGT, ↓reduceIte, Nat.reduceEqDiff, Nat.reduceBEq, reduceCtorEq, Int.reduceBEq, Int.reduceBNe, Int.reduceLT, Int.reduceLE, Int.reduceGT, Int.reduceGE, aggT_25, sizeT_25, bytesT_25, fieldT_25_0, fieldT_25_1, fieldT_25_2, fieldT_25_3, placesT_25, zeroT_25, aggT_23, sizeT_23, bytesT_23, und_23, elemT_23, zero1_23, zeroT_23, aggT_71, sizeT_71, bytesT_71, und_71, zero1_71, zeroT_71, aggT_9, sizeT_9, bytesT_9, und_9, zero1_9, zeroT_9, aggT_3, sizeT_3, bytesT_3, und_3, zero1_3, zeroT_3, aggT_4, sizeT_4, bytesT_4, und_4, zero1_4, zeroT_4, makeMapA, mapUpdateA, lookupA, pairV, keyA, isKeyB, scal, Instr.findNow, Instr.sameNow, List.push_toArray, cellB, cdV, cdC, bV, iV, ho, h1]
      (refine Eq.trans ?_ rfl; kernel_rfl)
    · intro h; cases h
theorem formed37_4 (hx : ext 37 = none)  (x : Cd) (ho : x.op = 4) : ∃ b, run Tryd.prog ext (.call 37 [cdV x] []) = some (.ret [bV b] []) ∧ (b = true → (x.l.length : Int) = 2 ∧ 0 ≤ x.n) := by
  by_cases h1 : (x.l.length : Int) = 2
  · by_cases h2 : x.n < 0
    · refine ⟨false, ?_, ?_⟩
      · (rw [run_eq]; simp only [stepA, hx, Tryd.func37, Tryd.f37]; simp only [List.length_cons, List.length_nil, Nat.reduceAdd, Nat.reduceLeDiff, Nat.zero_le, ↓reduceIte, List.zipIdx_cons, List.zipIdx_nil, List.map_cons, List.map_nil])
        simp only [zS, wantedA, opA, eff, boxA, cells, ev, gt, pt, putO, updO, setO, okC, loadA, cutC, fieldAddrA, fieldA, indexAddrA, indexA, builtinA, callOpA, callV, target, ptrV, lenS, binA, intOp, strOp, unA, num, lk, over, allocA, pickA, buildA, fillA, convertA, extractA, ofComp, nilCheckA, makeFuncA, ptrs, ofValue, cellB, Nat.reduceAdd, Nat.reduceSub, Nat.reduceMul, Nat.reduceLT, Nat.reduceLeDiff, Nat.reduceGT, ↓reduceIte, Nat.reduceEqDiff, Nat.reduceBEq, reduceCtorEq, Int.reduceBEq, Int.reduceBNe, Int.reduceLT, Int.reduceLE, Int.reduceGT, Int.reduceGE, aggT_25, sizeT_25, bytesT_25, fieldT_25_0, fieldT_25_1, fieldT_25_2, fieldT_25_3, placesT_25, zeroT_25, aggT_23, sizeT_23, bytesT_23, und_23, elemT_23, zero1_23, zeroT_23, aggT_71, sizeT_71, bytesT_71, und_71, zero1_71, zeroT_71, aggT_9, sizeT_9, bytesT_9, und_9, zero1_9, zeroT_9, aggT_3, sizeT_3, bytesT_3, und_3, zero1_3, zeroT_3, aggT_4, sizeT_4, bytesT_4, und_4, zero1_4, zeroT_4, makeMapA, mapUpdateA, lookupA, pairV, keyA, isKeyB, scal, Instr.findNow, Instr.sameNow, List.push_toArray, cellB, cdV, cdC, bV, iV, ho, h1, h2]
        (refine Eq.trans ?_ rfl; kernel_rfl)
      · intro h; cases h
    · by_cases h3 : x.n > 0
      · refine ⟨false, ?_, ?_⟩
        · (rw [run_eq]; simp only [stepA, hx, Tryd.func37, Tryd.f37]; simp only [List.length_cons, List.length_nil, Nat.reduceAdd, Nat.reduceLeDiff, Nat.zero_le, ↓reduceIte, List.zipIdx_cons, List.zipIdx_nil, List.map_cons, List.map_nil])
          simp only [zS, wantedA, opA, eff, boxA, cells, ev, gt, pt, putO, updO, setO, okC, loadA, cutC, fieldAddrA, fieldA, indexAddrA, indexA, builtinA, callOpA, callV, target, ptrV, lenS, binA, intOp, strOp, unA, num, lk, over, allocA, pickA, buildA, fillA, convertA, extractA, ofComp, nilCheckA, makeFuncA, ptrs, ofValue, cellB, Nat.reduceAdd, Nat.reduceSub, Nat.reduceMul, Nat.reduceLT, Nat.reduceLeDiff, Nat.reduceGT, ↓reduceIte, Nat.reduceEqDiff, Nat.reduceBEq, reduceCtorEq, Int.reduceBEq, Int.reduceBNe, Int.reduceLT, Int.reduceLE, Int.reduceGT, Int.reduceGE, aggT_25, sizeT_25, bytesT_25, fieldT_25_0, fieldT_25_1, fieldT_25_2, fieldT_25_3, placesT_25, zeroT_25, aggT_23, sizeT_23, bytesT_23, und_23, elemT_23, zero1_23, zeroT_23, aggT_71, sizeT_71, bytesT_71, und_71, zero1_71, zeroT_71, aggT_9, sizeT_9, bytesT_9, und_9, zero1_9, zeroT_9, aggT_3, sizeT_3, bytesT_3, und_3, zero1_3, zeroT_3, aggT_4, sizeT_4, bytesT_4, und_4, zero1_4, zeroT_4, makeMapA, mapUpdateA, lookupA, pairV, keyA, isKeyB, scal, Instr.findNow, Instr.sameNow, List.push_toArray, cellB, cdV, cdC, bV, iV, ho, h1, h2, h3]
          (refine Eq.trans ?_ rfl; kernel_rfl)
        · intro h; cases h
      · refine ⟨x.s.toList == (⟨#[]⟩ : ByteArray).toList, ?_, ?_⟩
        · (rw [run_eq]; simp only [stepA, hx, Tryd.func37, Tryd.f37]; simp only [List.length_cons, List.length_nil, Nat.reduceAdd, Nat.reduceLeDiff, Nat.zero_le, ↓reduceIte, List.zipIdx_cons, List.zipIdx_nil, List.map_cons, List.map_nil])
          simp only [zS, wantedA, opA, eff, boxA, cells, ev, gt, pt, putO, updO, setO, okC, loadA, cutC, fieldAddrA, fieldA, indexAddrA, indexA, builtinA, callOpA, callV, target, ptrV, lenS, binA, intOp, strOp, unA, num, lk, over, allocA, pickA, buildA, fillA, convertA, extractA, ofComp, nilCheckA, makeFuncA, ptrs, ofValue, cellB, Nat.reduceAdd, Nat.reduceSub, Nat.reduceMul, Nat.reduceLT, Nat.reduceLeDiff, Nat.reduceGT, ↓reduceIte, Nat.reduceEqDiff, Nat.reduceBEq, reduceCtorEq, Int.reduceBEq, Int.reduceBNe, Int.reduceLT, Int.reduceLE, Int.reduceGT, Int.reduceGE, aggT_25, sizeT_25, bytesT_25, fieldT_25_0, fieldT_25_1, fieldT_25_2, fieldT_25_3, placesT_25, zeroT_25, aggT_23, sizeT_23, bytesT_23, und_23, elemT_23, zero1_23, zeroT_23, aggT_71, sizeT_71, bytesT_71, und_71, zero1_71, zeroT_71, aggT_9, sizeT_9, bytesT_9, und_9, zero1_9, zeroT_9, aggT_3, sizeT_3, bytesT_3, und_3, zero1_3, zeroT_3, aggT_4, sizeT_4, bytesT_4, und_4, zero1_4, zeroT_4, makeMapA, mapUpdateA, lookupA, pairV, keyA, isKeyB, scal, Instr.findNow, Instr.sameNow, List.push_toArray, cellB, cdV, cdC, bV, iV, ho, h1, h2, h3]
          (refine Eq.trans ?_ rfl; kernel_rfl)
        · intro _; exact ⟨h1, by omega⟩
  · refine ⟨false, ?_, ?_⟩
    · (rw [run_eq]; simp only [stepA, hx, Tryd.func37, Tryd.f37]; simp only [List.length_cons, List.length_nil, Nat.reduceAdd, Nat.reduceLeDiff, Nat.zero_le, ↓reduceIte, List.zipIdx_cons, List.zipIdx_nil, List.map_cons, List.map_nil])
      simp only [zS, wantedA, opA, eff, boxA, cells, ev, gt, pt, putO, updO, setO, okC, loadA, cutC, fieldAddrA, fieldA, indexAddrA, indexA, builtinA, callOpA, callV, target, ptrV, lenS, binA, intOp, strOp, unA, num, lk, over, allocA, pickA, buildA, fillA, convertA, extractA, ofComp, nilCheckA, makeFuncA, ptrs, ofValue, cellB, Nat.reduceAdd, Nat.reduceSub, Nat.reduceMul, Nat.reduceLT, Nat.reduceLeDiff, Nat.reduceGT, ↓reduceIte, Nat.reduceEqDiff, Nat.reduceBEq, reduceCtorEq, Int.reduceBEq, Int.reduceBNe, Int.reduceLT, Int.reduceLE, Int.reduceGT, Int.reduceGE, aggT_25, sizeT_25, bytesT_25, fieldT_25_0, fieldT_25_1, fieldT_25_2, fieldT_25_3, placesT_25, zeroT_25, aggT_23, sizeT_23, bytesT_23, und_23, elemT_23, zero1_23, zeroT_23, aggT_71, sizeT_71, bytesT_71, und_71, zero1_71, zeroT_71, aggT_9, sizeT_9, bytesT_9, und_9, zero1_9, zeroT_9, aggT_3, sizeT_3, bytesT_3, und_3, zero1_3, zeroT_3, aggT_4, sizeT_4, bytesT_4, und_4, zero1_4, zeroT_4, makeMapA, mapUpdateA, lookupA, pairV, keyA, isKeyB, scal, Instr.findNow, Instr.sameNow, List.push_toArray, cellB, cdV, cdC, bV, iV, ho, h1]
      (refine Eq.trans ?_ rfl; kernel_rfl)
    · intro h; cases h
theorem formed37_5 (hx : ext 37 = none)  (x : Cd) (ho : x.op = 5) : ∃ b, run Tryd.prog ext (.call 37 [cdV x] []) = some (.ret [bV b] []) ∧ (b = true → (x.l.length : Int) = 1 ∧ 0 ≤ x.n) := by
  by_cases h1 : (x.l.length : Int) = 1
  · by_cases h2 : x.n < 0
    · refine ⟨false, ?_, ?_⟩
      · (rw [run_eq]; simp only [stepA, hx, Tryd.func37, Tryd.f37]; simp only [List.length_cons, List.length_nil, Nat.reduceAdd, Nat.reduceLeDiff, Nat.zero_le, ↓reduceIte, List.zipIdx_cons, List.zipIdx_nil, List.map_cons, List.map_nil])
        simp only [zS, wantedA, opA, eff, boxA, cells, ev, gt, pt, putO, updO, setO, okC, loadA, cutC, fieldAddrA, fieldA, indexAddrA, indexA, builtinA, callOpA, callV, target, ptrV, lenS, binA, intOp, strOp, unA, num, lk, over, allocA, pickA, buildA, fillA, convertA, extractA, ofComp, nilCheckA, makeFuncA, ptrs, ofValue, cellB, Nat.reduceAdd, Nat.reduceSub, Nat.reduceMul, Nat.reduceLT, Nat.reduceLeDiff, Nat.reduceGT, ↓reduceIte, Nat.reduceEqDiff, Nat.reduceBEq, reduceCtorEq, Int.reduceBEq, Int.reduceBNe, Int.reduceLT, Int.reduceLE, Int.reduceGT, Int.reduceGE, aggT_25, sizeT_25, bytesT_25, fieldT_25_0, fieldT_25_1, fieldT_25_2, fieldT_25_3, placesT_25, zeroT_25, aggT_23, sizeT_23, bytesT_23, und_23, elemT_23, zero1_23, zeroT_23, aggT_71, sizeT_71, bytesT_71, und_71, zero1_71, zeroT_71, aggT_9, sizeT_9, bytesT_9, und_9, zero1_9, zeroT_9, aggT_3, sizeT_3, bytesT_3, und_3, zero1_3, zeroT_3, aggT_4, sizeT_4, bytesT_4, und_4, zero1_4, zeroT_4, makeMapA, mapUpdateA, lookupA, pairV, keyA, isKeyB, scal, Instr.findNow, Instr.sameNow, List.push_toArray, cellB, cdV, cdC, bV, iV, ho, h1, h2]
        (refine Eq.trans ?_ rfl; kernel_rfl)
      · intro h; cases h
    · by_cases h3 : x.n > 0
      · refine ⟨false, ?_, ?_⟩
        · (rw [run_eq]; simp only [stepA, hx, Tryd.func37, Tryd.f37]; simp only [List.length_cons, List.length_nil, Nat.reduceAdd, Nat.reduceLeDiff, Nat.zero_le, ↓reduceIte, List.zipIdx_cons, List.zipIdx_nil, List.map_cons, List.map_nil])
          simp only [zS, wantedA, opA, eff, boxA, cells, ev, gt, pt, putO, updO, setO, okC, loadA, cutC, fieldAddrA, fieldA, indexAddrA, indexA, builtinA, callOpA, callV, target, ptrV, lenS, binA, intOp, strOp, unA, num, lk, over, allocA, pickA, buildA, fillA, convertA, extractA, ofComp, nilCheckA, makeFuncA, ptrs, ofValue, cellB, Nat.reduceAdd, Nat.reduceSub, Nat.reduceMul, Nat.reduceLT, Nat.reduceLeDiff, Nat.reduceGT, ↓reduceIte, Nat.reduceEqDiff, Nat.reduceBEq, reduceCtorEq, Int.reduceBEq, Int.reduceBNe, Int.reduceLT, Int.reduceLE, Int.reduceGT, Int.reduceGE, aggT_25, sizeT_25, bytesT_25, fieldT_25_0, fieldT_25_1, fieldT_25_2, fieldT_25_3, placesT_25, zeroT_25, aggT_23, sizeT_23, bytesT_23, und_23, elemT_23, zero1_23, zeroT_23, aggT_71, sizeT_71, bytesT_71, und_71, zero1_71, zeroT_71, aggT_9, sizeT_9, bytesT_9, und_9, zero1_9, zeroT_9, aggT_3, sizeT_3, bytesT_3, und_3, zero1_3, zeroT_3, aggT_4, sizeT_4, bytesT_4, und_4, zero1_4, zeroT_4, makeMapA, mapUpdateA, lookupA, pairV, keyA, isKeyB, scal, Instr.findNow, Instr.sameNow, List.push_toArray, cellB, cdV, cdC, bV, iV, ho, h1, h2, h3]
          (refine Eq.trans ?_ rfl; kernel_rfl)
        · intro h; cases h
      · refine ⟨x.s.toList == (⟨#[]⟩ : ByteArray).toList, ?_, ?_⟩
        · (rw [run_eq]; simp only [stepA, hx, Tryd.func37, Tryd.f37]; simp only [List.length_cons, List.length_nil, Nat.reduceAdd, Nat.reduceLeDiff, Nat.zero_le, ↓reduceIte, List.zipIdx_cons, List.zipIdx_nil, List.map_cons, List.map_nil])
          simp only [zS, wantedA, opA, eff, boxA, cells, ev, gt, pt, putO, updO, setO, okC, loadA, cutC, fieldAddrA, fieldA, indexAddrA, indexA, builtinA, callOpA, callV, target, ptrV, lenS, binA, intOp, strOp, unA, num, lk, over, allocA, pickA, buildA, fillA, convertA, extractA, ofComp, nilCheckA, makeFuncA, ptrs, ofValue, cellB, Nat.reduceAdd, Nat.reduceSub, Nat.reduceMul, Nat.reduceLT, Nat.reduceLeDiff, Nat.reduceGT, ↓reduceIte, Nat.reduceEqDiff, Nat.reduceBEq, reduceCtorEq, Int.reduceBEq, Int.reduceBNe, Int.reduceLT, Int.reduceLE, Int.reduceGT, Int.reduceGE, aggT_25, sizeT_25, bytesT_25, fieldT_25_0, fieldT_25_1, fieldT_25_2, fieldT_25_3, placesT_25, zeroT_25, aggT_23, sizeT_23, bytesT_23, und_23, elemT_23, zero1_23, zeroT_23, aggT_71, sizeT_71, bytesT_71, und_71, zero1_71, zeroT_71, aggT_9, sizeT_9, bytesT_9, und_9, zero1_9, zeroT_9, aggT_3, sizeT_3, bytesT_3, und_3, zero1_3, zeroT_3, aggT_4, sizeT_4, bytesT_4, und_4, zero1_4, zeroT_4, makeMapA, mapUpdateA, lookupA, pairV, keyA, isKeyB, scal, Instr.findNow, Instr.sameNow, List.push_toArray, cellB, cdV, cdC, bV, iV, ho, h1, h2, h3]
          (refine Eq.trans ?_ rfl; kernel_rfl)
        · intro _; exact ⟨h1, by omega⟩
  · refine ⟨false, ?_, ?_⟩
    · (rw [run_eq]; simp only [stepA, hx, Tryd.func37, Tryd.f37]; simp only [List.length_cons, List.length_nil, Nat.reduceAdd, Nat.reduceLeDiff, Nat.zero_le, ↓reduceIte, List.zipIdx_cons, List.zipIdx_nil, List.map_cons, List.map_nil])
      simp only [zS, wantedA, opA, eff, boxA, cells, ev, gt, pt, putO, updO, setO, okC, loadA, cutC, fieldAddrA, fieldA, indexAddrA, indexA, builtinA, callOpA, callV, target, ptrV, lenS, binA, intOp, strOp, unA, num, lk, over, allocA, pickA, buildA, fillA, convertA, extractA, ofComp, nilCheckA, makeFuncA, ptrs, ofValue, cellB, Nat.reduceAdd, Nat.reduceSub, Nat.reduceMul, Nat.reduceLT, Nat.reduceLeDiff, Nat.reduceGT, ↓reduceIte, Nat.reduceEqDiff, Nat.reduceBEq, reduceCtorEq, Int.reduceBEq, Int.reduceBNe, Int.reduceLT, Int.reduceLE, Int.reduceGT, Int.reduceGE, aggT_25, sizeT_25, bytesT_25, fieldT_25_0, fieldT_25_1, fieldT_25_2, fieldT_25_3, placesT_25, zeroT_25, aggT_23, sizeT_23, bytesT_23, und_23, elemT_23, zero1_23, zeroT_23, aggT_71, sizeT_71, bytesT_71, und_71, zero1_71, zeroT_71, aggT_9, sizeT_9, bytesT_9, und_9, zero1_9, zeroT_9, aggT_3, sizeT_3, bytesT_3, und_3, zero1_3, zeroT_3, aggT_4, sizeT_4, bytesT_4, und_4, zero1_4, zeroT_4, makeMapA, mapUpdateA, lookupA, pairV, keyA, isKeyB, scal, Instr.findNow, Instr.sameNow, List.push_toArray, cellB, cdV, cdC, bV, iV, ho, h1]
      (refine Eq.trans ?_ rfl; kernel_rfl)
    · intro h; cases h
theorem formed37_6 (hx : ext 37 = none)  (x : Cd) (ho : x.op = 6) : ∃ b, run Tryd.prog ext (.call 37 [cdV x] []) = some (.ret [bV b] []) ∧ (b = true → (x.l.length : Int) = 1 ∧ 0 ≤ x.n) := by
  by_cases h1 : (x.l.length : Int) = 1
  · by_cases h2 : x.n < 0
    · refine ⟨false, ?_, ?_⟩
      · (rw [run_eq]; simp only [stepA, hx, Tryd.func37, Tryd.f37]; simp only [List.length_cons, List.length_nil, Nat.reduceAdd, Nat.reduceLeDiff, Nat.zero_le, ↓reduceIte, List.zipIdx_cons, List.zipIdx_nil, List.map_cons, List.map_nil])
        simp only [zS, wantedA, opA, eff, boxA, cells, ev, gt, pt, putO, updO, setO, okC, loadA, cutC, fieldAddrA, fieldA, indexAddrA, indexA, builtinA, callOpA, callV, target, ptrV, lenS, binA, intOp, strOp, unA, num, lk, over, allocA, pickA, buildA, fillA, convertA, extractA, ofComp, nilCheckA, makeFuncA, ptrs, ofValue, cellB, Nat.reduceAdd, Nat.reduceSub, Nat.reduceMul, Nat.reduceLT, Nat.reduceLeDiff, Nat.reduceGT, ↓reduceIte, Nat.reduceEqDiff, Nat.reduceBEq, reduceCtorEq, Int.reduceBEq, Int.reduceBNe, Int.reduceLT, Int.reduceLE, Int.reduceGT, Int.reduceGE, aggT_25, sizeT_25, bytesT_25, fieldT_25_0, fieldT_25_1, fieldT_25_2, fieldT_25_3, placesT_25, zeroT_25, aggT_23, sizeT_23, bytesT_23, und_23, elemT_23, zero1_23, zeroT_23, aggT_71, sizeT_71, bytesT_71, und_71, zero1_71, zeroT_71, aggT_9, sizeT_9, bytesT_9, und_9, zero1_9, zeroT_9, aggT_3, sizeT_3, bytesT_3, und_3, zero1_3, zeroT_3, aggT_4, sizeT_4, bytesT_4, und_4, zero1_4, zeroT_4, makeMapA, mapUpdateA, lookupA, pairV, keyA, isKeyB, scal, Instr.findNow, Instr.sameNow, List.push_toArray, cellB, cdV, cdC, bV, iV, ho, h1, h2]
        (refine Eq.trans ?_ rfl; kernel_rfl)
      · intro h; cases h
    · by_cases h3 : x.n > 0
      · refine ⟨false, ?_, ?_⟩
        · (rw [run_eq]; simp only [stepA, hx, Tryd.func37, Tryd.f37]; simp only [List.length_cons, List.length_nil, Nat.reduceAdd, Nat.reduceLeDiff, Nat.zero_le, ↓reduceIte, List.zipIdx_cons, List.zipIdx_nil, List.map_cons, List.map_nil])
          simp only [zS, wantedA, opA, eff, boxA, cells, ev, gt, pt, putO, updO, setO, okC, loadA, cutC, fieldAddrA, fieldA, indexAddrA, indexA, builtinA, callOpA, callV, target, ptrV, lenS, binA, intOp, strOp, unA, num, lk, over, allocA, pickA, buildA, fillA, convertA, extractA, ofComp, nilCheckA, makeFuncA, ptrs, ofValue, cellB, Nat.reduceAdd, Nat.reduceSub, Nat.reduceMul, Nat.reduceLT, Nat.reduceLeDiff, Nat.reduceGT, ↓reduceIte, Nat.reduceEqDiff, Nat.reduceBEq, reduceCtorEq, Int.reduceBEq, Int.reduceBNe, Int.reduceLT, Int.reduceLE, Int.reduceGT, Int.reduceGE, aggT_25, sizeT_25, bytesT_25, fieldT_25_0, fieldT_25_1, fieldT_25_2, fieldT_25_3, placesT_25, zeroT_25, aggT_23, sizeT_23, bytesT_23, und_23, elemT_23, zero1_23, zeroT_23, aggT_71, sizeT_71, bytesT_71, und_71, zero1_71, zeroT_71, aggT_9, sizeT_9, bytesT_9, und_9, zero1_9, zeroT_9, aggT_3, sizeT_3, bytesT_3, und_3, zero1_3, zeroT_3, aggT_4, sizeT_4, bytesT_4, und_4, zero1_4, zeroT_4, makeMapA, mapUpdateA, lookupA, pairV, keyA, isKeyB, scal, Instr.findNow, Instr.sameNow, List.push_toArray, cellB, cdV, cdC, bV, iV, ho, h1, h2, h3]
          (refine Eq.trans ?_ rfl; kernel_rfl)
        · intro h; cases h
      · refine ⟨x.s.toList == (⟨#[]⟩ : ByteArray).toList, ?_, ?_⟩
        · (rw [run_eq]; simp only [stepA, hx, Tryd.func37, Tryd.f37]; simp only [List.length_cons, List.length_nil, Nat.reduceAdd, Nat.reduceLeDiff, Nat.zero_le, ↓reduceIte, List.zipIdx_cons, List.zipIdx_nil, List.map_cons, List.map_nil])
          simp only [zS, wantedA, opA, eff, boxA, cells, ev, gt, pt, putO, updO, setO, okC, loadA, cutC, fieldAddrA, fieldA, indexAddrA, indexA, builtinA, callOpA, callV, target, ptrV, lenS, binA, intOp, strOp, unA, num, lk, over, allocA, pickA, buildA, fillA, convertA, extractA, ofComp, nilCheckA, makeFuncA, ptrs, ofValue, cellB, Nat.reduceAdd, Nat.reduceSub, Nat.reduceMul, Nat.reduceLT, Nat.reduceLeDiff, Nat.reduceGT, ↓reduceIte, Nat.reduceEqDiff, Nat.reduceBEq, reduceCtorEq, Int.reduceBEq, Int.reduceBNe, Int.reduceLT, Int.reduceLE, Int.reduceGT, Int.reduceGE, aggT_25, sizeT_25, bytesT_25, fieldT_25_0, fieldT_25_1, fieldT_25_2, fieldT_25_3, placesT_25, zeroT_25, aggT_23, sizeT_23, bytesT_23, und_23, elemT_23, zero1_23, zeroT_23, aggT_71, sizeT_71, bytesT_71, und_71, zero1_71, zeroT_71, aggT_9, sizeT_9, bytesT_9, und_9, zero1_9, zeroT_9, aggT_3, sizeT_3, bytesT_3, und_3, zero1_3, zeroT_3, aggT_4, sizeT_4, bytesT_4, und_4, zero1_4, zeroT_4, makeMapA, mapUpdateA, lookupA, pairV, keyA, isKeyB, scal, Instr.findNow, Instr.sameNow, List.push_toArray, cellB, cdV, cdC, bV, iV, ho, h1, h2, h3]
          (refine Eq.trans ?_ rfl; kernel_rfl)
        · intro _; exact ⟨h1, by omega⟩
  · refine ⟨false, ?_, ?_⟩
    · (rw [run_eq]; simp only [stepA, hx, Tryd.func37, Tryd.f37]; simp only [List.length_cons, List.length_nil, Nat.reduceAdd, Nat.reduceLeDiff, Nat.zero_le, ↓reduceIte, List.zipIdx_cons, List.zipIdx_nil, List.map_cons, List.map_nil])
      simp only [zS, wantedA, opA, eff, boxA, cells, ev, gt, pt, putO, updO, setO, okC, loadA, cutC, fieldAddrA, fieldA, indexAddrA, indexA, builtinA, callOpA, callV, target, ptrV, lenS, binA, intOp, strOp, unA, num, lk, over, allocA, pickA, buildA, fillA, convertA, extractA, ofComp, nilCheckA, makeFuncA, ptrs, ofValue, cellB, Nat.reduceAdd, Nat.reduceSub, Nat.reduceMul, Nat.reduceLT, Nat.reduceLeDiff, Nat.reduceGT, ↓reduceIte, Nat.reduceEqDiff, Nat.reduceBEq, reduceCtorEq, Int.reduceBEq, Int.reduceBNe, Int.reduceLT, Int.reduceLE, Int.reduceGT, Int.reduceGE, aggT_25, sizeT_25, bytesT_25, fieldT_25_0, fieldT_25_1, fieldT_25_2, fieldT_25_3, placesT_25, zeroT_25, aggT_23, sizeT_23, bytesT_23, und_23, elemT_23, zero1_23, zeroT_23, aggT_71, sizeT_71, bytesT_71, und_71, zero1_71, zeroT_71, aggT_9, sizeT_9, bytesT_9, und_9, zero1_9, zeroT_9, aggT_3, sizeT_3, bytesT_3, und_3, zero1_3, zeroT_3, aggT_4, sizeT_4, bytesT_4, und_4, zero1_4, zeroT_4, makeMapA, mapUpdateA, lookupA, pairV, keyA, isKeyB, scal, Instr.findNow, Instr.sameNow, List.push_toArray, cellB, cdV, cdC, bV, iV, ho, h1]
      (refine Eq.trans ?_ rfl; kernel_rfl)
    · intro h; cases h
theorem formed37_7 (hx : ext 37 = none)  (x : Cd) (ho : x.op = 7) : ∃ b, run Tryd.prog ext (.call 37 [cdV x] []) = some (.ret [bV b] []) ∧ (b = true → (x.l.length : Int) = 0 ∧ 0 ≤ x.n) := by
  by_cases h1 : (x.l.length : Int) = 0
  · by_cases h2 : x.n < 0
    · refine ⟨false, ?_, ?_⟩
      · (rw [run_eq]; simp only [stepA, hx, Tryd.func37, Tryd.f37]; simp only [List.length_cons, List.length_nil, Nat.reduceAdd, Nat.reduceLeDiff, Nat.zero_le, ↓reduceIte, List.zipIdx_cons, List.zipIdx_nil, List.map_cons, List.map_nil])
        simp only [zS, wantedA, opA, eff, boxA, cells, ev, gt, pt, putO, updO, setO, okC, loadA, cutC, fieldAddrA, fieldA, indexAddrA, indexA, builtinA, callOpA, callV, target, ptrV, lenS, binA, intOp, strOp, unA, num, lk, over, allocA, pickA, buildA, fillA, convertA, extractA, ofComp, nilCheckA, makeFuncA, ptrs, ofValue, cellB, Nat.reduceAdd, Nat.reduceSub, Nat.reduceMul, Nat.reduceLT, Nat.reduceLeDiff, Nat.reduceGT, ↓reduceIte, Nat.reduceEqDiff, Nat.reduceBEq, reduceCtorEq, Int.reduceBEq, Int.reduceBNe, Int.reduceLT, Int.reduceLE, Int.reduceGT, Int.reduceGE, aggT_25, sizeT_25, bytesT_25, fieldT_25_0, fieldT_25_1, fieldT_25_2, fieldT_25_3, placesT_25, zeroT_25, aggT_23, sizeT_23, bytesT_23, und_23, elemT_23, zero1_23, zeroT_23, aggT_71, sizeT_71, bytesT_71, und_71, zero1_71, zeroT_71, aggT_9, sizeT_9, bytesT_9, und_9, zero1_9, zeroT_9, aggT_3, sizeT_3, bytesT_3, und_3, zero1_3, zeroT_3, aggT_4, sizeT_4, bytesT_4, und_4, zero1_4, zeroT_4, makeMapA, mapUpdateA, lookupA, pairV, keyA, isKeyB, scal, Instr.findNow, Instr.sameNow, List.push_toArray, cellB, cdV, cdC, bV, iV, ho, h1, h2]
        (refine Eq.trans ?_ rfl; kernel_rfl)
      · intro h; cases h
    · by_cases h3 : x.n > 0
      · refine ⟨false, ?_, ?_⟩
        · (rw [run_eq]; simp only [stepA, hx, Tryd.func37, Tryd.f37]; simp only [List.length_cons, List.length_nil, Nat.reduceAdd, Nat.reduceLeDiff, Nat.zero_le, ↓reduceIte, List.zipIdx_cons, List.zipIdx_nil, List.map_cons, List.map_nil])
          simp only [zS, wantedA, opA, eff, boxA, cells, ev, gt, pt, putO, updO, setO, okC, loadA, cutC, fieldAddrA, fieldA, indexAddrA, indexA, builtinA, callOpA, callV, target, ptrV, lenS, binA, intOp, strOp, unA, num, lk, over, allocA, pickA, buildA, fillA, convertA, extractA, ofComp, nilCheckA, makeFuncA, ptrs, ofValue, cellB, Nat.reduceAdd, Nat.reduceSub, Nat.reduceMul, Nat.reduceLT, Nat.reduceLeDiff, Nat.reduceGT, ↓reduceIte, Nat.reduceEqDiff, Nat.reduceBEq, reduceCtorEq, Int.reduceBEq, Int.reduceBNe, Int.reduceLT, Int.reduceLE, Int.reduceGT, Int.reduceGE, aggT_25, sizeT_25, bytesT_25, fieldT_25_0, fieldT_25_1, fieldT_25_2, fieldT_25_3, placesT_25, zeroT_25, aggT_23, sizeT_23, bytesT_23, und_23, elemT_23, zero1_23, zeroT_23, aggT_71, sizeT_71, bytesT_71, und_71, zero1_71, zeroT_71, aggT_9, sizeT_9, bytesT_9, und_9, zero1_9, zeroT_9, aggT_3, sizeT_3, bytesT_3, und_3, zero1_3, zeroT_3, aggT_4, sizeT_4, bytesT_4, und_4, zero1_4, zeroT_4, makeMapA, mapUpdateA, lookupA, pairV, keyA, isKeyB, scal, Instr.findNow, Instr.sameNow, List.push_toArray, cellB, cdV, cdC, bV, iV, ho, h1, h2, h3]
          (refine Eq.trans ?_ rfl; kernel_rfl)
        · intro h; cases h
      · refine ⟨x.s.toList == (⟨#[]⟩ : ByteArray).toList, ?_, ?_⟩
        · (rw [run_eq]; simp only [stepA, hx, Tryd.func37, Tryd.f37]; simp only [List.length_cons, List.length_nil, Nat.reduceAdd, Nat.reduceLeDiff, Nat.zero_le, ↓reduceIte, List.zipIdx_cons, List.zipIdx_nil, List.map_cons, List.map_nil])
          simp only [zS, wantedA, opA, eff, boxA, cells, ev, gt, pt, putO, updO, setO, okC, loadA, cutC, fieldAddrA, fieldA, indexAddrA, indexA, builtinA, callOpA, callV, target, ptrV, lenS, binA, intOp, strOp, unA, num, lk, over, allocA, pickA, buildA, fillA, convertA, extractA, ofComp, nilCheckA, makeFuncA, ptrs, ofValue, cellB, Nat.reduceAdd, Nat.reduceSub, Nat.reduceMul, Nat.reduceLT, Nat.reduceLeDiff, Nat.reduceGT, ↓reduceIte, Nat.reduceEqDiff, Nat.reduceBEq, reduceCtorEq, Int.reduceBEq, Int.reduceBNe, Int.reduceLT, Int.reduceLE, Int.reduceGT, Int.reduceGE, aggT_25, sizeT_25, bytesT_25, fieldT_25_0, fieldT_25_1, fieldT_25_2, fieldT_25_3, placesT_25, zeroT_25, aggT_23, sizeT_23, bytesT_23, und_23, elemT_23, zero1_23, zeroT_23, aggT_71, sizeT_71, bytesT_71, und_71, zero1_71, zeroT_71, aggT_9, sizeT_9, bytesT_9, und_9, zero1_9, zeroT_9, aggT_3, sizeT_3, bytesT_3, und_3, zero1_3, zeroT_3, aggT_4, sizeT_4, bytesT_4, und_4, zero1_4, zeroT_4, makeMapA, mapUpdateA, lookupA, pairV, keyA, isKeyB, scal, Instr.findNow, Instr.sameNow, List.push_toArray, cellB, cdV, cdC, bV, iV, ho, h1, h2, h3]
          (refine Eq.trans ?_ rfl; kernel_rfl)
        · intro _; exact ⟨h1, by omega⟩
  · refine ⟨false, ?_, ?_⟩
    · (rw [run_eq]; simp only [stepA, hx, Tryd.func37, Tryd.f37]; simp only [List.length_cons, List.length_nil, Nat.reduceAdd, Nat.reduceLeDiff, Nat.zero_le, ↓reduceIte, List.zipIdx_cons, List.zipIdx_nil, List.map_cons, List.map_nil])
      simp only [zS, wantedA, opA, eff, boxA, cells, ev, gt, pt, putO, updO, setO, okC, loadA, cutC, fieldAddrA, fieldA, indexAddrA, indexA, builtinA, callOpA, callV, target, ptrV, lenS, binA, intOp, strOp, unA, num, lk, over, allocA, pickA, buildA, fillA, convertA, extractA, ofComp, nilCheckA, makeFuncA, ptrs, ofValue, cellB, Nat.reduceAdd, Nat.reduceSub, Nat.reduceMul, Nat.reduceLT, Nat.reduceLeDiff, Nat.reduceGT, ↓reduceIte, Nat.reduceEqDiff, Nat.reduceBEq, reduceCtorEq, Int.reduceBEq, Int.reduceBNe, Int.reduceLT, Int.reduceLE, Int.reduceGT, Int.reduceGE, aggT_25, sizeT_25, bytesT_25, fieldT_25_0, fieldT_25_1, fieldT_25_2, fieldT_25_3, placesT_25, zeroT_25, aggT_23, sizeT_23, bytesT_23, und_23, elemT_23, zero1_23, zeroT_23, aggT_71, sizeT_71, bytesT_71, und_71, zero1_71, zeroT_71, aggT_9, sizeT_9, bytesT_9, und_9, zero1_9, zeroT_9, aggT_3, sizeT_3, bytesT_3, und_3, zero1_3, zeroT_3, aggT_4, sizeT_4, bytesT_4, und_4, zero1_4, zeroT_4, makeMapA, mapUpdateA, lookupA, pairV, keyA, isKeyB, scal, Instr.findNow, Instr.sameNow, List.push_toArray, cellB, cdV, cdC, bV, iV, ho, h1]
      (refine Eq.trans ?_ rfl; kernel_rfl)
    · intro h; cases h
theorem formed37_8 (hx : ext 37 = none)  (x : Cd) (ho : x.op = 8) : ∃ b, run Tryd.prog ext (.call 37 [cdV x] []) = some (.ret [bV b] []) ∧ (b = true → (x.l.length : Int) = 1 ∧ 0 ≤ x.n) := by
  by_cases h1 : (x.l.length : Int) = 1
  · by_cases h2 : x.n < 0
    · refine ⟨false, ?_, ?_⟩
      · (rw [run_eq]; simp only [stepA, hx, Tryd.func37, Tryd.f37]; simp only [List.length_cons, List.length_nil, Nat.reduceAdd, Nat.reduceLeDiff, Nat.zero_le, ↓reduceIte, List.zipIdx_cons, List.zipIdx_nil, List.map_cons, List.map_nil])
        simp only [zS, wantedA, opA, eff, boxA, cells, ev, gt, pt, putO, updO, setO, okC, loadA, cutC, fieldAddrA, fieldA, indexAddrA, indexA, builtinA, callOpA, callV, target, ptrV, lenS, binA, intOp, strOp, unA, num, lk, over, allocA, pickA, buildA, fillA, convertA, extractA, ofComp, nilCheckA, makeFuncA, ptrs, ofValue, cellB, Nat.reduceAdd, Nat.reduceSub, Nat.reduceMul, Nat.reduceLT, Nat.reduceLeDiff, Nat.reduceGT, ↓reduceIte, Nat.reduceEqDiff, Nat.reduceBEq, reduceCtorEq, Int.reduceBEq, Int.reduceBNe, Int.reduceLT, Int.reduceLE, Int.reduceGT, Int.reduceGE, aggT_25, sizeT_25, bytesT_25, fieldT_25_0, fieldT_25_1, fieldT_25_2, fieldT_25_3, placesT_25, zeroT_25, aggT_23, sizeT_23, bytesT_23, und_23, elemT_23, zero1_23, zeroT_23, aggT_71, sizeT_71, bytesT_71, und_71, zero1_71, zeroT_71, aggT_9, sizeT_9, bytesT_9, und_9, zero1_9, zeroT_9, aggT_3, sizeT_3, bytesT_3, und_3, zero1_3, zeroT_3, aggT_4, sizeT_4, bytesT_4, und_4, zero1_4, zeroT_4, makeMapA, mapUpdateA, lookupA, pairV, keyA, isKeyB, scal, Instr.findNow, Instr.sameNow, List.push_toArray, cellB, cdV, cdC, bV, iV, ho, h1, h2]
        (refine Eq.trans ?_ rfl; kernel_rfl)
      · intro h; cases h
    · by_cases h3 : x.n > 0
      · refine ⟨x.s.toList == (⟨#[]⟩ : ByteArray).toList, ?_, ?_⟩
        · (rw [run_eq]; simp only [stepA, hx, Tryd.func37, Tryd.f37]; simp only [List.length_cons, List.length_nil, Nat.reduceAdd, Nat.reduceLeDiff, Nat.zero_le, ↓reduceIte, List.zipIdx_cons, List.zipIdx_nil, List.map_cons, List.map_nil])
          simp only [zS, wantedA, opA, eff, boxA, cells, ev, gt, pt, putO, updO, setO, okC, loadA, cutC, fieldAddrA, fieldA, indexAddrA, indexA, builtinA, callOpA, callV, target, ptrV, lenS, binA, intOp, strOp, unA, num, lk, over, allocA, pickA, buildA, fillA, convertA, extractA, ofComp, nilCheckA, makeFuncA, ptrs, ofValue, cellB, Nat.reduceAdd, Nat.reduceSub, Nat.reduceMul, Nat.reduceLT, Nat.reduceLeDiff, Nat.reduceGT, ↓reduceIte, Nat.reduceEqDiff, Nat.reduceBEq, reduceCtorEq, Int.reduceBEq, Int.reduceBNe, Int.reduceLT, Int.reduceLE, Int.reduceGT, Int.reduceGE, aggT_25, sizeT_25, bytesT_25, fieldT_25_0, fieldT_25_1, fieldT_25_2, fieldT_25_3, placesT_25, zeroT_25, aggT_23, sizeT_23, bytesT_23, und_23, elemT_23, zero1_23, zeroT_23, aggT_71, sizeT_71, bytesT_71, und_71, zero1_71, zeroT_71, aggT_9, sizeT_9, bytesT_9, und_9, zero1_9, zeroT_9, aggT_3, sizeT_3, bytesT_3, und_3, zero1_3, zeroT_3, aggT_4, sizeT_4, bytesT_4, und_4, zero1_4, zeroT_4, makeMapA, mapUpdateA, lookupA, pairV, keyA, isKeyB, scal, Instr.findNow, Instr.sameNow, List.push_toArray, cellB, cdV, cdC, bV, iV, ho, h1, h2, h3]
          (refine Eq.trans ?_ rfl; kernel_rfl)
        · intro _; exact ⟨h1, by omega⟩
      · refine ⟨x.s.toList == (⟨#[]⟩ : ByteArray).toList, ?_, ?_⟩
        · (rw [run_eq]; simp only [stepA, hx, Tryd.func37, Tryd.f37]; simp only [List.length_cons, List.length_nil, Nat.reduceAdd, Nat.reduceLeDiff, Nat.zero_le, ↓reduceIte, List.zipIdx_cons, List.zipIdx_nil, List.map_cons, List.map_nil])
          simp only [zS, wantedA, opA, eff, boxA, cells, ev, gt, pt, putO, updO, setO, okC, loadA, cutC, fieldAddrA, fieldA, indexAddrA, indexA, builtinA, callOpA, callV, target, ptrV, lenS, binA, intOp, strOp, unA, num, lk, over, allocA, pickA, buildA, fillA, convertA, extractA, ofComp, nilCheckA, makeFuncA, ptrs, ofValue, cellB, Nat.reduceAdd, Nat.reduceSub, Nat.reduceMul, Nat.reduceLT, Nat.reduceLeDiff, Nat.reduceGT, ↓reduceIte, Nat.reduceEqDiff, Nat.reduceBEq, reduceCtorEq, Int.reduceBEq, Int.reduceBNe, Int.reduceLT, Int.reduceLE, Int.reduceGT, Int.reduceGE, aggT_25, sizeT_25, bytesT_25, fieldT_25_0, fieldT_25_1, fieldT_25_2, fieldT_25_3, placesT_25, zeroT_25, aggT_23, sizeT_23, bytesT_23, und_23, elemT_23, zero1_23, zeroT_23, aggT_71, sizeT_71, bytesT_71, und_71, zero1_71, zeroT_71, aggT_9, sizeT_9, bytesT_9, und_9, zero1_9, zeroT_9, aggT_3, sizeT_3, bytesT_3, und_3, zero1_3, zeroT_3, aggT_4, sizeT_4, bytesT_4, und_4, zero1_4, zeroT_4, makeMapA, mapUpdateA, lookupA, pairV, keyA, isKeyB, scal, Instr.findNow, Instr.sameNow, List.push_toArray, cellB, cdV, cdC, bV, iV, ho, h1, h2, h3]
          (refine Eq.trans ?_ rfl; kernel_rfl)
        · intro _; exact ⟨h1, by omega⟩
  · refine ⟨false, ?_, ?_⟩
    · (rw [run_eq]; simp only [stepA, hx, Tryd.func37, Tryd.f37]; simp only [List.length_cons, List.length_nil, Nat.reduceAdd, Nat.reduceLeDiff, Nat.zero_le, ↓reduceIte, List.zipIdx_cons, List.zipIdx_nil, List.map_cons, List.map_nil])
      simp only [zS, wantedA, opA, eff, boxA, cells, ev, gt, pt, putO, updO, setO, okC, loadA, cutC, fieldAddrA, fieldA, indexAddrA, indexA, builtinA, callOpA, callV, target, ptrV, lenS, binA, intOp, strOp, unA, num, lk, over, allocA, pickA, buildA, fillA, convertA, extractA, ofComp, nilCheckA, makeFuncA, ptrs, ofValue, cellB, Nat.reduceAdd, Nat.reduceSub, Nat.reduceMul, Nat.reduceLT, Nat.reduceLeDiff, Nat.reduceGT, ↓reduceIte, Nat.reduceEqDiff, Nat.reduceBEq, reduceCtorEq, Int.reduceBEq, Int.reduceBNe, Int.reduceLT, Int.reduceLE, Int.reduceGT, Int.reduceGE, aggT_25, sizeT_25, bytesT_25, fieldT_25_0, fieldT_25_1, fieldT_25_2, fieldT_25_3, placesT_25, zeroT_25, aggT_23, sizeT_23, bytesT_23, und_23, elemT_23, zero1_23, zeroT_23, aggT_71, sizeT_71, bytesT_71, und_71, zero1_71, zeroT_71, aggT_9, sizeT_9, bytesT_9, und_9, zero1_9, zeroT_9, aggT_3, sizeT_3, bytesT_3, und_3, zero1_3, zeroT_3, aggT_4, sizeT_4, bytesT_4, und_4, zero1_4, zeroT_4, makeMapA, mapUpdateA, lookupA, pairV, keyA, isKeyB, scal, Instr.findNow, Instr.sameNow, List.push_toArray, cellB, cdV, cdC, bV, iV, ho, h1]
      (refine Eq.trans ?_ rfl; kernel_rfl)
    · intro h; cases h
theorem formed37_10 (hx : ext 37 = none) (x : Cd) (h52 : ∃ b, run Tryd.prog ext (.call 52 [sV x.s] []) = some (.ret [bV b] [])) (ho : x.op = 10) : ∃ b, run Tryd.prog ext (.call 37 [cdV x] []) = some (.ret [bV b] []) ∧ (b = true → (x.l.length : Int) = 0 ∧ 0 ≤ x.n) := by
  obtain ⟨b, hb⟩ := h52
  simp only [sV, bV] at hb
  by_cases h1 : (x.l.length : Int) = 0
  · by_cases h2 : x.n < 0
    · refine ⟨false, ?_, ?_⟩
      · (rw [run_eq]; simp only [stepA, hx, Tryd.func37, Tryd.f37]; simp only [List.length_cons, List.length_nil, Nat.reduceAdd, Nat.reduceLeDiff, Nat.zero_le, ↓reduceIte, List.zipIdx_cons, List.zipIdx_nil, List.map_cons, List.map_nil])
        simp only [zS, wantedA, opA, eff, boxA, cells, ev, gt, pt, putO, updO, setO, okC, loadA, cutC, fieldAddrA, fieldA, indexAddrA, indexA, builtinA, callOpA, callV, target, ptrV, lenS, binA, intOp, strOp, unA, num, lk, over, allocA, pickA, buildA, fillA, convertA, extractA, ofComp, nilCheckA, makeFuncA, ptrs, ofValue, cellB, Nat.reduceAdd, Nat.reduceSub, Nat.reduceMul, Nat.reduceLT, Nat.reduceLeDiff, Nat.reduceGT, ↓reduceIte, Nat.reduceEqDiff, Nat.reduceBEq, reduceCtorEq, Int.reduceBEq, Int.reduceBNe, Int.reduceLT, Int.reduceLE, Int.reduceGT, Int.reduceGE, aggT_25, sizeT_25, bytesT_25, fieldT_25_0, fieldT_25_1, fieldT_25_2, fieldT_25_3, placesT_25, zeroT_25, aggT_23, sizeT_23, bytesT_23, und_23, elemT_23, zero1_23, zeroT_23, aggT_71, sizeT_71, bytesT_71, und_71, zero1_71, zeroT_71, aggT_9, sizeT_9, bytesT_9, und_9, zero1_9, zeroT_9, aggT_3, sizeT_3, bytesT_3, und_3, zero1_3, zeroT_3, aggT_4, sizeT_4, bytesT_4, und_4, zero1_4, zeroT_4, makeMapA, mapUpdateA, lookupA, pairV, keyA, isKeyB, scal, Instr.findNow, Instr.sameNow, List.push_toArray, cellB, cdV, cdC, bV, iV, ho, h1, h2]
        (refine Eq.trans ?_ rfl; kernel_rfl)
      · intro h; cases h
    · by_cases h3 : x.n > 0
      · refine ⟨false, ?_, ?_⟩
        · (rw [run_eq]; simp only [stepA, hx, Tryd.func37, Tryd.f37]; simp only [List.length_cons, List.length_nil, Nat.reduceAdd, Nat.reduceLeDiff, Nat.zero_le, ↓reduceIte, List.zipIdx_cons, List.zipIdx_nil, List.map_cons, List.map_nil])
          simp only [zS, wantedA, opA, eff, boxA, cells, ev, gt, pt, putO, updO, setO, okC, loadA, cutC, fieldAddrA, fieldA, indexAddrA, indexA, builtinA, callOpA, callV, target, ptrV, lenS, binA, intOp, strOp, unA, num, lk, over, allocA, pickA, buildA, fillA, convertA, extractA, ofComp, nilCheckA, makeFuncA, ptrs, ofValue, cellB, Nat.reduceAdd, Nat.reduceSub, Nat.reduceMul, Nat.reduceLT, Nat.reduceLeDiff, Nat.reduceGT, ↓reduceIte, Nat.reduceEqDiff, Nat.reduceBEq, reduceCtorEq, Int.reduceBEq, Int.reduceBNe, Int.reduceLT, Int.reduceLE, Int.reduceGT, Int.reduceGE, aggT_25, sizeT_25, bytesT_25, fieldT_25_0, fieldT_25_1, fieldT_25_2, fieldT_25_3, placesT_25, zeroT_25, aggT_23, sizeT_23, bytesT_23, und_23, elemT_23, zero1_23, zeroT_23, aggT_71, sizeT_71, bytesT_71, und_71, zero1_71, zeroT_71, aggT_9, sizeT_9, bytesT_9, und_9, zero1_9, zeroT_9, aggT_3, sizeT_3, bytesT_3, und_3, zero1_3, zeroT_3, aggT_4, sizeT_4, bytesT_4, und_4, zero1_4, zeroT_4, makeMapA, mapUpdateA, lookupA, pairV, keyA, isKeyB, scal, Instr.findNow, Instr.sameNow, List.push_toArray, cellB, cdV, cdC, bV, iV, ho, h1, h2, h3]
          (refine Eq.trans ?_ rfl; kernel_rfl)
        · intro h; cases h
      · refine ⟨b, ?_, ?_⟩
        · (rw [run_eq]; simp only [stepA, hx, Tryd.func37, Tryd.f37]; simp only [List.length_cons, List.length_nil, Nat.reduceAdd, Nat.reduceLeDiff, Nat.zero_le, ↓reduceIte, List.zipIdx_cons, List.zipIdx_nil, List.map_cons, List.map_nil])
          simp only [zS, wantedA, opA, eff, boxA, cells, ev, gt, pt, putO, updO, setO, okC, loadA, cutC, fieldAddrA, fieldA, indexAddrA, indexA, builtinA, callOpA, callV, target, ptrV, lenS, binA, intOp, strOp, unA, num, lk, over, allocA, pickA, buildA, fillA, convertA, extractA, ofComp, nilCheckA, makeFuncA, ptrs, ofValue, cellB, Nat.reduceAdd, Nat.reduceSub, Nat.reduceMul, Nat.reduceLT, Nat.reduceLeDiff, Nat.reduceGT, ↓reduceIte, Nat.reduceEqDiff, Nat.reduceBEq, reduceCtorEq, Int.reduceBEq, Int.reduceBNe, Int.reduceLT, Int.reduceLE, Int.reduceGT, Int.reduceGE, aggT_25, sizeT_25, bytesT_25, fieldT_25_0, fieldT_25_1, fieldT_25_2, fieldT_25_3, placesT_25, zeroT_25, aggT_23, sizeT_23, bytesT_23, und_23, elemT_23, zero1_23, zeroT_23, aggT_71, sizeT_71, bytesT_71, und_71, zero1_71, zeroT_71, aggT_9, sizeT_9, bytesT_9, und_9, zero1_9, zeroT_9, aggT_3, sizeT_3, bytesT_3, und_3, zero1_3, zeroT_3, aggT_4, sizeT_4, bytesT_4, und_4, zero1_4, zeroT_4, makeMapA, mapUpdateA, lookupA, pairV, keyA, isKeyB, scal, Instr.findNow, Instr.sameNow, List.push_toArray, cellB, cdV, cdC, bV, iV, ho, h1, h2, h3, hb]
          (refine Eq.trans ?_ rfl; kernel_rfl)
        · intro _; exact ⟨h1, by omega⟩
  · refine ⟨false, ?_, ?_⟩
    · (rw [run_eq]; simp only [stepA, hx, Tryd.func37, Tryd.f37]; simp only [List.length_cons, List.length_nil, Nat.reduceAdd, Nat.reduceLeDiff, Nat.zero_le, ↓reduceIte, List.zipIdx_cons, List.zipIdx_nil, List.map_cons, List.map_nil])
      simp only [zS, wantedA, opA, eff, boxA, cells, ev, gt, pt, putO, updO, setO, okC, loadA, cutC, fieldAddrA, fieldA, indexAddrA, indexA, builtinA, callOpA, callV, target, ptrV, lenS, binA, intOp, strOp, unA, num, lk, over, allocA, pickA, buildA, fillA, convertA, extractA, ofComp, nilCheckA, makeFuncA, ptrs, ofValue, cellB, Nat.reduceAdd, Nat.reduceSub, Nat.reduceMul, Nat.reduceLT, Nat.reduceLeDiff, Nat.reduceGT, ↓reduceIte, Nat.reduceEqDiff, Nat.reduceBEq, reduceCtorEq, Int.reduceBEq, Int.reduceBNe, Int.reduceLT, Int.reduceLE, Int.reduceGT, Int.reduceGE, aggT_25, sizeT_25, bytesT_25, fieldT_25_0, fieldT_25_1, fieldT_25_2, fieldT_25_3, placesT_25, zeroT_25, aggT_23, sizeT_23, bytesT_23, und_23, elemT_23, zero1_23, zeroT_23, aggT_71, sizeT_71, bytesT_71, und_71, zero1_71, zeroT_71, aggT_9, sizeT_9, bytesT_9, und_9, zero1_9, zeroT_9, aggT_3, sizeT_3, bytesT_3, und_3, zero1_3, zeroT_3, aggT_4, sizeT_4, bytesT_4, und_4, zero1_4, zeroT_4, makeMapA, mapUpdateA, lookupA, pairV, keyA, isKeyB, scal, Instr.findNow, Instr.sameNow, List.push_toArray, cellB, cdV, cdC, bV, iV, ho, h1]
      (refine Eq.trans ?_ rfl; kernel_rfl)
    · intro h; cases h
theorem formed37_12 (hx : ext 37 = none)  (x : Cd) (ho : x.op = 12) : ∃ b, run Tryd.prog ext (.call 37 [cdV x] []) = some (.ret [bV b] []) ∧ (b = true → (x.l.length : Int) = 0 ∧ 0 ≤ x.n) := by
  by_cases h1 : (x.l.length : Int) = 0
  · by_cases h2 : x.n < 0
    · refine ⟨false, ?_, ?_⟩
      · (rw [run_eq]; simp only [stepA, hx, Tryd.func37, Tryd.f37]; simp only [List.length_cons, List.length_nil, Nat.reduceAdd, Nat.reduceLeDiff, Nat.zero_le, ↓reduceIte, List.zipIdx_cons, List.zipIdx_nil, List.map_cons, List.map_nil])
        simp only [zS, wantedA, opA, eff, boxA, cells, ev, gt, pt, putO, updO, setO, okC, loadA, cutC, fieldAddrA, fieldA, indexAddrA, indexA, builtinA, callOpA, callV, target, ptrV, lenS, binA, intOp, strOp, unA, num, lk, over, allocA, pickA, buildA, fillA, convertA, extractA, ofComp, nilCheckA, makeFuncA, ptrs, ofValue, cellB, Nat.reduceAdd, Nat.reduceSub, Nat.reduceMul, Nat.reduceLT, Nat.reduceLeDiff, Nat.reduceGT, ↓reduceIte, Nat.reduceEqDiff, Nat.reduceBEq, reduceCtorEq, Int.reduceBEq, Int.reduceBNe, Int.reduceLT, Int.reduceLE, Int.reduceGT, Int.reduceGE, aggT_25, sizeT_25, bytesT_25, fieldT_25_0, fieldT_25_1, fieldT_25_2, fieldT_25_3, placesT_25, zeroT_25, aggT_23, sizeT_23, bytesT_23, und_23, elemT_23, zero1_23, zeroT_23, aggT_71, sizeT_71, bytesT_71, und_71, zero1_71, zeroT_71, aggT_9, sizeT_9, bytesT_9, und_9, zero1_9, zeroT_9, aggT_3, sizeT_3, bytesT_3, und_3, zero1_3, zeroT_3, aggT_4, sizeT_4, bytesT_4, und_4, zero1_4, zeroT_4, makeMapA, mapUpdateA, lookupA, pairV, keyA, isKeyB, scal, Instr.findNow, Instr.sameNow, List.push_toArray, cellB, cdV, cdC, bV, iV, ho, h1, h2]
        (refine Eq.trans ?_ rfl; kernel_rfl)
      · intro h; cases h
    · by_cases h3 : x.n > 0
      · refine ⟨false, ?_, ?_⟩
        · (rw [run_eq]; simp only [stepA, hx, Tryd.func37, Tryd.f37]; simp only [List.length_cons, List.length_nil, Nat.reduceAdd, Nat.reduceLeDiff, Nat.zero_le, ↓reduceIte, List.zipIdx_cons, List.zipIdx_nil, List.map_cons, List.map_nil])
          simp only [zS, wantedA, opA, eff, boxA, cells, ev, gt, pt, putO, updO, setO, okC, loadA, cutC, fieldAddrA, fieldA, indexAddrA, indexA, builtinA, callOpA, callV, target, ptrV, lenS, binA, intOp, strOp, unA, num, lk, over, allocA, pickA, buildA, fillA, convertA, extractA, ofComp, nilCheckA, makeFuncA, ptrs, ofValue, cellB, Nat.reduceAdd, Nat.reduceSub, Nat.reduceMul, Nat.reduceLT, Nat.reduceLeDiff, Nat.reduceGT, ↓reduceIte, Nat.reduceEqDiff, Nat.reduceBEq, reduceCtorEq, Int.reduceBEq, Int.reduceBNe, Int.reduceLT, Int.reduceLE, Int.reduceGT, Int.reduceGE, aggT_25, sizeT_25, bytesT_25, fieldT_25_0, fieldT_25_1, fieldT_25_2, fieldT_25_3, placesT_25, zeroT_25, aggT_23, sizeT_23, bytesT_23, und_23, elemT_23, zero1_23, zeroT_23, aggT_71, sizeT_71, bytesT_71, und_71, zero1_71, zeroT_71, aggT_9, sizeT_9, bytesT_9, und_9, zero1_9, zeroT_9, aggT_3, sizeT_3, bytesT_3, und_3, zero1_3, zeroT_3, aggT_4, sizeT_4, bytesT_4, und_4, zero1_4, zeroT_4, makeMapA, mapUpdateA, lookupA, pairV, keyA, isKeyB, scal, Instr.findNow, Instr.sameNow, List.push_toArray, cellB, cdV, cdC, bV, iV, ho, h1, h2, h3]
          (refine Eq.trans ?_ rfl; kernel_rfl)
        · intro h; cases h
      · refine ⟨x.s.toList == (⟨#[]⟩ : ByteArray).toList, ?_, ?_⟩
        · (rw [run_eq]; simp only [stepA, hx, Tryd.func37, Tryd.f37]; simp only [List.length_cons, List.length_nil, Nat.reduceAdd, Nat.reduceLeDiff, Nat.zero_le, ↓reduceIte, List.zipIdx_cons, List.zipIdx_nil, List.map_cons, List.map_nil])
          simp only [zS, wantedA, opA, eff, boxA, cells, ev, gt, pt, putO, updO, setO, okC, loadA, cutC, fieldAddrA, fieldA, indexAddrA, indexA, builtinA, callOpA, callV, target, ptrV, lenS, binA, intOp, strOp, unA, num, lk, over, allocA, pickA, buildA, fillA, convertA, extractA, ofComp, nilCheckA, makeFuncA, ptrs, ofValue, cellB, Nat.reduceAdd, Nat.reduceSub, Nat.reduceMul, Nat.reduceLT, Nat.reduceLeDiff, Nat.reduceGT, ↓reduceIte, Nat.reduceEqDiff, Nat.reduceBEq, reduceCtorEq, Int.reduceBEq, Int.reduceBNe, Int.reduceLT, Int.reduceLE, Int.reduceGT, Int.reduceGE, aggT_25, sizeT_25, bytesT_25, fieldT_25_0, fieldT_25_1, fieldT_25_2, fieldT_25_3, placesT_25, zeroT_25, aggT_23, sizeT_23, bytesT_23, und_23, elemT_23, zero1_23, zeroT_23, aggT_71, sizeT_71, bytesT_71, und_71, zero1_71, zeroT_71, aggT_9, sizeT_9, bytesT_9, und_9, zero1_9, zeroT_9, aggT_3, sizeT_3, bytesT_3, und_3, zero1_3, zeroT_3, aggT_4, sizeT_4, bytesT_4, und_4, zero1_4, zeroT_4, makeMapA, mapUpdateA, lookupA, pairV, keyA, isKeyB, scal, Instr.findNow, Instr.sameNow, List.push_toArray, cellB, cdV, cdC, bV, iV, ho, h1, h2, h3]
          (refine Eq.trans ?_ rfl; kernel_rfl)
        · intro _; exact ⟨h1, by omega⟩
  · refine ⟨false, ?_, ?_⟩
    · (rw [run_eq]; simp only [stepA, hx, Tryd.func37, Tryd.f37]; simp only [List.length_cons, List.length_nil, Nat.reduceAdd, Nat.reduceLeDiff, Nat.zero_le, ↓reduceIte, List.zipIdx_cons, List.zipIdx_nil, List.map_cons, List.map_nil])
      simp only [zS, wantedA, opA, eff, boxA, cells, ev, gt, pt, putO, updO, setO, okC, loadA, cutC, fieldAddrA, fieldA, indexAddrA, indexA, builtinA, callOpA, callV, target, ptrV, lenS, binA, intOp, strOp, unA, num, lk, over, allocA, pickA, buildA, fillA, convertA, extractA, ofComp, nilCheckA, makeFuncA, ptrs, ofValue, cellB, Nat.reduceAdd, Nat.reduceSub, Nat.reduceMul, Nat.reduceLT, Nat.reduceLeDiff, Nat.reduceGT, ↓reduceIte, Nat.reduceEqDiff, Nat.reduceBEq, reduceCtorEq, Int.reduceBEq, Int.reduceBNe, Int.reduceLT, Int.reduceLE, Int.reduceGT, Int.reduceGE, aggT_25, sizeT_25, bytesT_25, fieldT_25_0, fieldT_25_1, fieldT_25_2, fieldT_25_3, placesT_25, zeroT_25, aggT_23, sizeT_23, bytesT_23, und_23, elemT_23, zero1_23, zeroT_23, aggT_71, sizeT_71, bytesT_71, und_71, zero1_71, zeroT_71, aggT_9, sizeT_9, bytesT_9, und_9, zero1_9, zeroT_9, aggT_3, sizeT_3, bytesT_3, und_3, zero1_3, zeroT_3, aggT_4, sizeT_4, bytesT_4, und_4, zero1_4, zeroT_4, makeMapA, mapUpdateA, lookupA, pairV, keyA, isKeyB, scal, Instr.findNow, Instr.sameNow, List.push_toArray, cellB, cdV, cdC, bV, iV, ho, h1]
      (refine Eq.trans ?_ rfl; kernel_rfl)
    · intro h; cases h
theorem formed37_9 (hx : ext 37 = none) (x : Cd) (ho : x.op = 9) : ∃ b, run Tryd.prog ext (.call 37 [cdV x] []) = some (.ret [bV b] []) ∧ (b = true → 1 ≤ x.l.length) := by
  by_cases h1 : (x.l.length : Int) = 0
  · refine ⟨false, ?_, ?_⟩
    · (rw [run_eq]; simp only [stepA, hx, Tryd.func37, Tryd.f37]; simp only [List.length_cons, List.length_nil, Nat.reduceAdd, Nat.reduceLeDiff, Nat.zero_le, ↓reduceIte, List.zipIdx_cons, List.zipIdx_nil, List.map_cons, List.map_nil])
      simp only [zS, wantedA, opA, eff, boxA, cells, ev, gt, pt, putO, updO, setO, okC, loadA, cutC, fieldAddrA, fieldA, indexAddrA, indexA, builtinA, callOpA, callV, target, ptrV, lenS, binA, intOp, strOp, unA, num, lk, over, allocA, pickA, buildA, fillA, convertA, extractA, ofComp, nilCheckA, makeFuncA, ptrs, ofValue, cellB, Nat.reduceAdd, Nat.reduceSub, Nat.reduceMul, Nat.reduceLT, Nat.reduceLeDiff, Nat.reduceGT, ↓reduceIte, Nat.reduceEqDiff, Nat.reduceBEq, reduceCtorEq, Int.reduceBEq, Int.reduceBNe, Int.reduceLT, Int.reduceLE, Int.reduceGT, Int.reduceGE, aggT_25, sizeT_25, bytesT_25, fieldT_25_0, fieldT_25_1, fieldT_25_2, fieldT_25_3, placesT_25, zeroT_25, aggT_23, sizeT_23, bytesT_23, und_23, elemT_23, zero1_23, zeroT_23, aggT_71, sizeT_71, bytesT_71, und_71, zero1_71, zeroT_71, aggT_9, sizeT_9, bytesT_9, und_9, zero1_9, zeroT_9, aggT_3, sizeT_3, bytesT_3, und_3, zero1_3, zeroT_3, aggT_4, sizeT_4, bytesT_4, und_4, zero1_4, zeroT_4, makeMapA, mapUpdateA, lookupA, pairV, keyA, isKeyB, scal, Instr.findNow, Instr.sameNow, List.push_toArray, cellB, cdV, cdC, bV, iV, ho, h1]
      (refine Eq.trans ?_ rfl; kernel_rfl)
    · intro h; cases h
  · by_cases h2 : x.n < 0
    · refine ⟨false, ?_, ?_⟩
      · (rw [run_eq]; simp only [stepA, hx, Tryd.func37, Tryd.f37]; simp only [List.length_cons, List.length_nil, Nat.reduceAdd, Nat.reduceLeDiff, Nat.zero_le, ↓reduceIte, List.zipIdx_cons, List.zipIdx_nil, List.map_cons, List.map_nil])
        simp only [zS, wantedA, opA, eff, boxA, cells, ev, gt, pt, putO, updO, setO, okC, loadA, cutC, fieldAddrA, fieldA, indexAddrA, indexA, builtinA, callOpA, callV, target, ptrV, lenS, binA, intOp, strOp, unA, num, lk, over, allocA, pickA, buildA, fillA, convertA, extractA, ofComp, nilCheckA, makeFuncA, ptrs, ofValue, cellB, Nat.reduceAdd, Nat.reduceSub, Nat.reduceMul, Nat.reduceLT, Nat.reduceLeDiff, Nat.reduceGT, ↓reduceIte, Nat.reduceEqDiff, Nat.reduceBEq, reduceCtorEq, Int.reduceBEq, Int.reduceBNe, Int.reduceLT, Int.reduceLE, Int.reduceGT, Int.reduceGE, aggT_25, sizeT_25, bytesT_25, fieldT_25_0, fieldT_25_1, fieldT_25_2, fieldT_25_3, placesT_25, zeroT_25, aggT_23, sizeT_23, bytesT_23, und_23, elemT_23, zero1_23, zeroT_23, aggT_71, sizeT_71, bytesT_71, und_71, zero1_71, zeroT_71, aggT_9, sizeT_9, bytesT_9, und_9, zero1_9, zeroT_9, aggT_3, sizeT_3, bytesT_3, und_3, zero1_3, zeroT_3, aggT_4, sizeT_4, bytesT_4, und_4, zero1_4, zeroT_4, makeMapA, mapUpdateA, lookupA, pairV, keyA, isKeyB, scal, Instr.findNow, Instr.sameNow, List.push_toArray, cellB, cdV, cdC, bV, iV, ho, h1, h2]
        (refine Eq.trans ?_ rfl; kernel_rfl)
      · intro h; cases h
    · by_cases h3 : x.n > 0
      · refine ⟨false, ?_, ?_⟩
        · (rw [run_eq]; simp only [stepA, hx, Tryd.func37, Tryd.f37]; simp only [List.length_cons, List.length_nil, Nat.reduceAdd, Nat.reduceLeDiff, Nat.zero_le, ↓reduceIte, List.zipIdx_cons, List.zipIdx_nil, List.map_cons, List.map_nil])
          simp only [zS, wantedA, opA, eff, boxA, cells, ev, gt, pt, putO, updO, setO, okC, loadA, cutC, fieldAddrA, fieldA, indexAddrA, indexA, builtinA, callOpA, callV, target, ptrV, lenS, binA, intOp, strOp, unA, num, lk, over, allocA, pickA, buildA, fillA, convertA, extractA, ofComp, nilCheckA, makeFuncA, ptrs, ofValue, cellB, Nat.reduceAdd, Nat.reduceSub, Nat.reduceMul, Nat.reduceLT, Nat.reduceLeDiff, Nat.reduceGT, ↓reduceIte, Nat.reduceEqDiff, Nat.reduceBEq, reduceCtorEq, Int.reduceBEq, Int.reduceBNe, Int.reduceLT, Int.reduceLE, Int.reduceGT, Int.reduceGE, aggT_25, sizeT_25, bytesT_25, fieldT_25_0, fieldT_25_1, fieldT_25_2, fieldT_25_3, placesT_25, zeroT_25, aggT_23, sizeT_23, bytesT_23, und_23, elemT_23, zero1_23, zeroT_23, aggT_71, sizeT_71, bytesT_71, und_71, zero1_71, zeroT_71, aggT_9, sizeT_9, bytesT_9, und_9, zero1_9, zeroT_9, aggT_3, sizeT_3, bytesT_3, und_3, zero1_3, zeroT_3, aggT_4, sizeT_4, bytesT_4, und_4, zero1_4, zeroT_4, makeMapA, mapUpdateA, lookupA, pairV, keyA, isKeyB, scal, Instr.findNow, Instr.sameNow, List.push_toArray, cellB, cdV, cdC, bV, iV, ho, h1, h2, h3]
          (refine Eq.trans ?_ rfl; kernel_rfl)
        · intro h; cases h
      · refine ⟨x.s.toList == (⟨#[]⟩ : ByteArray).toList, ?_, ?_⟩
        · (rw [run_eq]; simp only [stepA, hx, Tryd.func37, Tryd.f37]; simp only [List.length_cons, List.length_nil, Nat.reduceAdd, Nat.reduceLeDiff, Nat.zero_le, ↓reduceIte, List.zipIdx_cons, List.zipIdx_nil, List.map_cons, List.map_nil])
          simp only [zS, wantedA, opA, eff, boxA, cells, ev, gt, pt, putO, updO, setO, okC, loadA, cutC, fieldAddrA, fieldA, indexAddrA, indexA, builtinA, callOpA, callV, target, ptrV, lenS, binA, intOp, strOp, unA, num, lk, over, allocA, pickA, buildA, fillA, convertA, extractA, ofComp, nilCheckA, makeFuncA, ptrs, ofValue, cellB, Nat.reduceAdd, Nat.reduceSub, Nat.reduceMul, Nat.reduceLT, Nat.reduceLeDiff, Nat.reduceGT, ↓reduceIte, Nat.reduceEqDiff, Nat.reduceBEq, reduceCtorEq, Int.reduceBEq, Int.reduceBNe, Int.reduceLT, Int.reduceLE, Int.reduceGT, Int.reduceGE, aggT_25, sizeT_25, bytesT_25, fieldT_25_0, fieldT_25_1, fieldT_25_2, fieldT_25_3, placesT_25, zeroT_25, aggT_23, sizeT_23, bytesT_23, und_23, elemT_23, zero1_23, zeroT_23, aggT_71, sizeT_71, bytesT_71, und_71, zero1_71, zeroT_71, aggT_9, sizeT_9, bytesT_9, und_9, zero1_9, zeroT_9, aggT_3, sizeT_3, bytesT_3, und_3, zero1_3, zeroT_3, aggT_4, sizeT_4, bytesT_4, und_4, zero1_4, zeroT_4, makeMapA, mapUpdateA, lookupA, pairV, keyA, isKeyB, scal, Instr.findNow, Instr.sameNow, List.push_toArray, cellB, cdV, cdC, bV, iV, ho, h1, h2, h3]
          (refine Eq.trans ?_ rfl; kernel_rfl)
        · intro _; omega
theorem formed37_11 (hx : ext 37 = none) (x : Cd) (ho : x.op = 11) (h53 : ∃ b, run Tryd.prog ext (.call 53 [sV x.s, iV (wr ((x.l.length : Int) - 1))] []) = some (.ret [bV b] []) ∧ (b = true → ∃ k : Nat, wr ((x.l.length : Int) - 1) = k ∧ Shp ext x.s k)) : ∃ b, run Tryd.prog ext (.call 37 [cdV x] []) = some (.ret [bV b] []) ∧ (b = true → 1 ≤ x.l.length ∧ (x.l.length = 1 ∨ ∃ k : Nat, wr ((x.l.length : Int) - 1) = k ∧ Shp ext x.s k)) := by
  obtain ⟨b, hb, hs⟩ := h53
  simp only [sV, bV, iV] at hb
  by_cases h1 : (x.l.length : Int) = 0
  · refine ⟨false, ?_, ?_⟩
    · (rw [run_eq]; simp only [stepA, hx, Tryd.func37, Tryd.f37]; simp only [List.length_cons, List.length_nil, Nat.reduceAdd, Nat.reduceLeDiff, Nat.zero_le, ↓reduceIte, List.zipIdx_cons, List.zipIdx_nil, List.map_cons, List.map_nil])
      simp only [zS, wantedA, opA, eff, boxA, cells, ev, gt, pt, putO, updO, setO, okC, loadA, cutC, fieldAddrA, fieldA, indexAddrA, indexA, builtinA, callOpA, callV, target, ptrV, lenS, binA, intOp, strOp, unA, num, lk, over, allocA, pickA, buildA, fillA, convertA, extractA, ofComp, nilCheckA, makeFuncA, ptrs, ofValue, cellB, Nat.reduceAdd, Nat.reduceSub, Nat.reduceMul, Nat.reduceLT, Nat.reduceLeDiff, Nat.reduceGT, ↓reduceIte, Nat.reduceEqDiff, Nat.reduceBEq, reduceCtorEq, Int.reduceBEq, Int.reduceBNe, Int.reduceLT, Int.reduceLE, Int.reduceGT, Int.reduceGE, aggT_25, sizeT_25, bytesT_25, fieldT_25_0, fieldT_25_1, fieldT_25_2, fieldT_25_3, placesT_25, zeroT_25, aggT_23, sizeT_23, bytesT_23, und_23, elemT_23, zero1_23, zeroT_23, aggT_71, sizeT_71, bytesT_71, und_71, zero1_71, zeroT_71, aggT_9, sizeT_9, bytesT_9, und_9, zero1_9, zeroT_9, aggT_3, sizeT_3, bytesT_3, und_3, zero1_3, zeroT_3, aggT_4, sizeT_4, bytesT_4, und_4, zero1_4, zeroT_4, makeMapA, mapUpdateA, lookupA, pairV, keyA, isKeyB, scal, Instr.findNow, Instr.sameNow, List.push_toArray, cellB, cdV, cdC, bV, iV, ho, h1]
      (refine Eq.trans ?_ rfl; kernel_rfl)
    · intro h; cases h
  · by_cases h2 : x.n < 0
    · refine ⟨false, ?_, ?_⟩
      · (rw [run_eq]; simp only [stepA, hx, Tryd.func37, Tryd.f37]; simp only [List.length_cons, List.length_nil, Nat.reduceAdd, Nat.reduceLeDiff, Nat.zero_le, ↓reduceIte, List.zipIdx_cons, List.zipIdx_nil, List.map_cons, List.map_nil])
        simp only [zS, wantedA, opA, eff, boxA, cells, ev, gt, pt, putO, updO, setO, okC, loadA, cutC, fieldAddrA, fieldA, indexAddrA, indexA, builtinA, callOpA, callV, target, ptrV, lenS, binA, intOp, strOp, unA, num, lk, over, allocA, pickA, buildA, fillA, convertA, extractA, ofComp, nilCheckA, makeFuncA, ptrs, ofValue, cellB, Nat.reduceAdd, Nat.reduceSub, Nat.reduceMul, Nat.reduceLT, Nat.reduceLeDiff, Nat.reduceGT, ↓reduceIte, Nat.reduceEqDiff, Nat.reduceBEq, reduceCtorEq, Int.reduceBEq, Int.reduceBNe, Int.reduceLT, Int.reduceLE, Int.reduceGT, Int.reduceGE, aggT_25, sizeT_25, bytesT_25, fieldT_25_0, fieldT_25_1, fieldT_25_2, fieldT_25_3, placesT_25, zeroT_25, aggT_23, sizeT_23, bytesT_23, und_23, elemT_23, zero1_23, zeroT_23, aggT_71, sizeT_71, bytesT_71, und_71, zero1_71, zeroT_71, aggT_9, sizeT_9, bytesT_9, und_9, zero1_9, zeroT_9, aggT_3, sizeT_3, bytesT_3, und_3, zero1_3, zeroT_3, aggT_4, sizeT_4, bytesT_4, und_4, zero1_4, zeroT_4, makeMapA, mapUpdateA, lookupA, pairV, keyA, isKeyB, scal, Instr.findNow, Instr.sameNow, List.push_toArray, cellB, cdV, cdC, bV, iV, ho, h1, h2]
        (refine Eq.trans ?_ rfl; kernel_rfl)
      · intro h; cases h
    · by_cases h3 : x.n > 0
      · refine ⟨false, ?_, ?_⟩
        · (rw [run_eq]; simp only [stepA, hx, Tryd.func37, Tryd.f37]; simp only [List.length_cons, List.length_nil, Nat.reduceAdd, Nat.reduceLeDiff, Nat.zero_le, ↓reduceIte, List.zipIdx_cons, List.zipIdx_nil, List.map_cons, List.map_nil])
          simp only [zS, wantedA, opA, eff, boxA, cells, ev, gt, pt, putO, updO, setO, okC, loadA, cutC, fieldAddrA, fieldA, indexAddrA, indexA, builtinA, callOpA, callV, target, ptrV, lenS, binA, intOp, strOp, unA, num, lk, over, allocA, pickA, buildA, fillA, convertA, extractA, ofComp, nilCheckA, makeFuncA, ptrs, ofValue, cellB, Nat.reduceAdd, Nat.reduceSub, Nat.reduceMul, Nat.reduceLT, Nat.reduceLeDiff, Nat.reduceGT, ↓reduceIte, Nat.reduceEqDiff, Nat.reduceBEq, reduceCtorEq, Int.reduceBEq, Int.reduceBNe, Int.reduceLT, Int.reduceLE, Int.reduceGT, Int.reduceGE, aggT_25, sizeT_25, bytesT_25, fieldT_25_0, fieldT_25_1, fieldT_25_2, fieldT_25_3, placesT_25, zeroT_25, aggT_23, sizeT_23, bytesT_23, und_23, elemT_23, zero1_23, zeroT_23, aggT_71, sizeT_71, bytesT_71, und_71, zero1_71, zeroT_71, aggT_9, sizeT_9, bytesT_9, und_9, zero1_9, zeroT_9, aggT_3, sizeT_3, bytesT_3, und_3, zero1_3, zeroT_3, aggT_4, sizeT_4, bytesT_4, und_4, zero1_4, zeroT_4, makeMapA, mapUpdateA, lookupA, pairV, keyA, isKeyB, scal, Instr.findNow, Instr.sameNow, List.push_toArray, cellB, cdV, cdC, bV, iV, ho, h1, h2, h3]
          (refine Eq.trans ?_ rfl; kernel_rfl)
        · intro h; cases h
      · cases b with
        | true =>
          refine ⟨true, ?_, ?_⟩
          · (rw [run_eq]; simp only [stepA, hx, Tryd.func37, Tryd.f37]; simp only [List.length_cons, List.length_nil, Nat.reduceAdd, Nat.reduceLeDiff, Nat.zero_le, ↓reduceIte, List.zipIdx_cons, List.zipIdx_nil, List.map_cons, List.map_nil])
            simp only [zS, wantedA, opA, eff, boxA, cells, ev, gt, pt, putO, updO, setO, okC, loadA, cutC, fieldAddrA, fieldA, indexAddrA, indexA, builtinA, callOpA, callV, target, ptrV, lenS, binA, intOp, strOp, unA, num, lk, over, allocA, pickA, buildA, fillA, convertA, extractA, ofComp, nilCheckA, makeFuncA, ptrs, ofValue, cellB, Nat.reduceAdd, Nat.reduceSub, Nat.reduceMul, Nat.reduceLT, Nat.reduceLeDiff, Nat.reduceGT, ↓reduceIte, Nat.reduceEqDiff, Nat.reduceBEq, reduceCtorEq, Int.reduceBEq, Int.reduceBNe, Int.reduceLT, Int.reduceLE, Int.reduceGT, Int.reduceGE, aggT_25, sizeT_25, bytesT_25, fieldT_25_0, fieldT_25_1, fieldT_25_2, fieldT_25_3, placesT_25, zeroT_25, aggT_23, sizeT_23, bytesT_23, und_23, elemT_23, zero1_23, zeroT_23, aggT_71, sizeT_71, bytesT_71, und_71, zero1_71, zeroT_71, aggT_9, sizeT_9, bytesT_9, und_9, zero1_9, zeroT_9, aggT_3, sizeT_3, bytesT_3, und_3, zero1_3, zeroT_3, aggT_4, sizeT_4, bytesT_4, und_4, zero1_4, zeroT_4, makeMapA, mapUpdateA, lookupA, pairV, keyA, isKeyB, scal, Instr.findNow, Instr.sameNow, List.push_toArray, cellB, cdV, cdC, bV, iV, ho, h1, h2, h3, hb]
            (refine Eq.trans ?_ rfl; kernel_rfl)
          · intro _; exact ⟨by omega, .inr (hs rfl)⟩
        | false =>
          cases h4 : (x.s.toList == (⟨#[]⟩ : ByteArray).toList) with
          | false =>
            refine ⟨false, ?_, ?_⟩
            · (rw [run_eq]; simp only [stepA, hx, Tryd.func37, Tryd.f37]; simp only [List.length_cons, List.length_nil, Nat.reduceAdd, Nat.reduceLeDiff, Nat.zero_le, ↓reduceIte, List.zipIdx_cons, List.zipIdx_nil, List.map_cons, List.map_nil])
              simp only [zS, wantedA, opA, eff, boxA, cells, ev, gt, pt, putO, updO, setO, okC, loadA, cutC, fieldAddrA, fieldA, indexAddrA, indexA, builtinA, callOpA, callV, target, ptrV, lenS, binA, intOp, strOp, unA, num, lk, over, allocA, pickA, buildA, fillA, convertA, extractA, ofComp, nilCheckA, makeFuncA, ptrs, ofValue, cellB, Nat.reduceAdd, Nat.reduceSub, Nat.reduceMul, Nat.reduceLT, Nat.reduceLeDiff, Nat.reduceGT, ↓reduceIte, Nat.reduceEqDiff, Nat.reduceBEq, reduceCtorEq, Int.reduceBEq, Int.reduceBNe, Int.reduceLT, Int.reduceLE, Int.reduceGT, Int.reduceGE, aggT_25, sizeT_25, bytesT_25, fieldT_25_0, fieldT_25_1, fieldT_25_2, fieldT_25_3, placesT_25, zeroT_25, aggT_23, sizeT_23, bytesT_23, und_23, elemT_23, zero1_23, zeroT_23, aggT_71, sizeT_71, bytesT_71, und_71, zero1_71, zeroT_71, aggT_9, sizeT_9, bytesT_9, und_9, zero1_9, zeroT_9, aggT_3, sizeT_3, bytesT_3, und_3, zero1_3, zeroT_3, aggT_4, sizeT_4, bytesT_4, und_4, zero1_4, zeroT_4, makeMapA, mapUpdateA, lookupA, pairV, keyA, isKeyB, scal, Instr.findNow, Instr.sameNow, List.push_toArray, cellB, cdV, cdC, bV, iV, ho, h1, h2, h3, hb, h4]
              (refine Eq.trans ?_ rfl; kernel_rfl)
            · intro h; cases h
          | true =>
            by_cases h5 : (x.l.length : Int) = 1
            · rw [h5] at hb
              refine ⟨true, ?_, ?_⟩
              · (rw [run_eq]; simp only [stepA, hx, Tryd.func37, Tryd.f37]; simp only [List.length_cons, List.length_nil, Nat.reduceAdd, Nat.reduceLeDiff, Nat.zero_le, ↓reduceIte, List.zipIdx_cons, List.zipIdx_nil, List.map_cons, List.map_nil])
                simp only [zS, wantedA, opA, eff, boxA, cells, ev, gt, pt, putO, updO, setO, okC, loadA, cutC, fieldAddrA, fieldA, indexAddrA, indexA, builtinA, callOpA, callV, target, ptrV, lenS, binA, intOp, strOp, unA, num, lk, over, allocA, pickA, buildA, fillA, convertA, extractA, ofComp, nilCheckA, makeFuncA, ptrs, ofValue, cellB, Nat.reduceAdd, Nat.reduceSub, Nat.reduceMul, Nat.reduceLT, Nat.reduceLeDiff, Nat.reduceGT, ↓reduceIte, Nat.reduceEqDiff, Nat.reduceBEq, reduceCtorEq, Int.reduceBEq, Int.reduceBNe, Int.reduceLT, Int.reduceLE, Int.reduceGT, Int.reduceGE, aggT_25, sizeT_25, bytesT_25, fieldT_25_0, fieldT_25_1, fieldT_25_2, fieldT_25_3, placesT_25, zeroT_25, aggT_23, sizeT_23, bytesT_23, und_23, elemT_23, zero1_23, zeroT_23, aggT_71, sizeT_71, bytesT_71, und_71, zero1_71, zeroT_71, aggT_9, sizeT_9, bytesT_9, und_9, zero1_9, zeroT_9, aggT_3, sizeT_3, bytesT_3, und_3, zero1_3, zeroT_3, aggT_4, sizeT_4, bytesT_4, und_4, zero1_4, zeroT_4, makeMapA, mapUpdateA, lookupA, pairV, keyA, isKeyB, scal, Instr.findNow, Instr.sameNow, List.push_toArray, cellB, cdV, cdC, bV, iV, ho, h1, h2, h3, hb, h4, h5]
                (refine Eq.trans ?_ rfl; kernel_rfl)
              · intro _; exact ⟨by omega, .inl (by omega)⟩
            · refine ⟨false, ?_, ?_⟩
              · (rw [run_eq]; simp only [stepA, hx, Tryd.func37, Tryd.f37]; simp only [List.length_cons, List.length_nil, Nat.reduceAdd, Nat.reduceLeDiff, Nat.zero_le, ↓reduceIte, List.zipIdx_cons, List.zipIdx_nil, List.map_cons, List.map_nil])
                simp only [zS, wantedA, opA, eff, boxA, cells, ev, gt, pt, putO, updO, setO, okC, loadA, cutC, fieldAddrA, fieldA, indexAddrA, indexA, builtinA, callOpA, callV, target, ptrV, lenS, binA, intOp, strOp, unA, num, lk, over, allocA, pickA, buildA, fillA, convertA, extractA, ofComp, nilCheckA, makeFuncA, ptrs, ofValue, cellB, Nat.reduceAdd, Nat.reduceSub, Nat.reduceMul, Nat.reduceLT, Nat.reduceLeDiff, Nat.reduceGT, ↓reduceIte, Nat.reduceEqDiff, Nat.reduceBEq, reduceCtorEq, Int.reduceBEq, Int.reduceBNe, Int.reduceLT, Int.reduceLE, Int.reduceGT, Int.reduceGE, aggT_25, sizeT_25, bytesT_25, fieldT_25_0, fieldT_25_1, fieldT_25_2, fieldT_25_3, placesT_25, zeroT_25, aggT_23, sizeT_23, bytesT_23, und_23, elemT_23, zero1_23, zeroT_23, aggT_71, sizeT_71, bytesT_71, und_71, zero1_71, zeroT_71, aggT_9, sizeT_9, bytesT_9, und_9, zero1_9, zeroT_9, aggT_3, sizeT_3, bytesT_3, und_3, zero1_3, zeroT_3, aggT_4, sizeT_4, bytesT_4, und_4, zero1_4, zeroT_4, makeMapA, mapUpdateA, lookupA, pairV, keyA, isKeyB, scal, Instr.findNow, Instr.sameNow, List.push_toArray, cellB, cdV, cdC, bV, iV, ho, h1, h2, h3, hb, h4, h5]
                (refine Eq.trans ?_ rfl; kernel_rfl)
              · intro h; cases h
theorem formed37_no (hx : ext 37 = none) (x : Cd) (n1 : ¬ x.op = 1) (n2 : ¬ x.op = 2) (n3 : ¬ x.op = 3) (n4 : ¬ x.op = 4) (n5 : ¬ x.op = 5) (n6 : ¬ x.op = 6) (n7 : ¬ x.op = 7) (n8 : ¬ x.op = 8) (n10 : ¬ x.op = 10) (n12 : ¬ x.op = 12) (n9 : ¬ x.op = 9) (n11 : ¬ x.op = 11) : run Tryd.prog ext (.call 37 [cdV x] []) = some (.ret [bV false] []) := by
  (rw [run_eq]; simp only [stepA, hx, Tryd.func37, Tryd.f37]; simp only [List.length_cons, List.length_nil, Nat.reduceAdd, Nat.reduceLeDiff, Nat.zero_le, ↓reduceIte, List.zipIdx_cons, List.zipIdx_nil, List.map_cons, List.map_nil])
  simp only [zS, wantedA, opA, eff, boxA, cells, ev, gt, pt, putO, updO, setO, okC, loadA, cutC, fieldAddrA, fieldA, indexAddrA, indexA, builtinA, callOpA, callV, target, ptrV, lenS, binA, intOp, strOp, unA, num, lk, over, allocA, pickA, buildA, fillA, convertA, extractA, ofComp, nilCheckA, makeFuncA, ptrs, ofValue, cellB, Nat.reduceAdd, Nat.reduceSub, Nat.reduceMul, Nat.reduceLT, Nat.reduceLeDiff, Nat.reduceGT, ↓reduceIte, Nat.reduceEqDiff, Nat.reduceBEq, reduceCtorEq, Int.reduceBEq, Int.reduceBNe, Int.reduceLT, Int.reduceLE, Int.reduceGT, Int.reduceGE, aggT_25, sizeT_25, bytesT_25, fieldT_25_0, fieldT_25_1, fieldT_25_2, fieldT_25_3, placesT_25, zeroT_25, aggT_23, sizeT_23, bytesT_23, und_23, elemT_23, zero1_23, zeroT_23, aggT_71, sizeT_71, bytesT_71, und_71, zero1_71, zeroT_71, aggT_9, sizeT_9, bytesT_9, und_9, zero1_9, zeroT_9, aggT_3, sizeT_3, bytesT_3, und_3, zero1_3, zeroT_3, aggT_4, sizeT_4, bytesT_4, und_4, zero1_4, zeroT_4, makeMapA, mapUpdateA, lookupA, pairV, keyA, isKeyB, scal, Instr.findNow, Instr.sameNow, List.push_toArray, cellB, cdV, cdC, bV, iV, n1, n2, n3, n4, n5, n6, n7, n8, n10, n12, n9, n11]
  (refine Eq.trans ?_ rfl; kernel_rfl)
theorem formed37 (h37 : ext 37 = none) (h52 : ext 52 = none) (h66 : ext 66 = none) (h76 : ext 76 = none) (h67 : ext 67 = none) (h53 : ext 53 = none) (h68 : ext 68 = none) (h77 : ext 77 = none) (h69 : ext 69 = none) (h70 : ext 70 = none) (h46 : ext 46 = none) (h58 : ext 58 = none) (h72 : ext 72 = none) (h73 : ext 73 = none) (h80 : ext 80 = some nat80) (h81 : ext 81 = none) (h83 : ext 83 = none) (h87 : ext 87 = some nat87) (x : Cd) (hs : x.s.size ≤ 1048576) (hl : x.l.length < 2 ^ 60) :
    ∃ b, run Tryd.prog ext (.call 37 [cdV x] []) = some (.ret [bV b] []) ∧ (b = true → OkN ext x) := by
  have mkOk : ∀ {b : Bool} {k : Int} {o : Int}, x.op = o → (b = true → (x.l.length : Int) = k ∧ 0 ≤ x.n) → (o = 2 → k = 1) → (o = 3 → k = 2) → (o = 4 → k = 2) → (o = 5 → k = 1) → (o = 6 → k = 1) → (o = 8 → k = 1) → o ≠ 9 → o ≠ 11 → b = true → OkN ext x := by
    intro b k o ho hb c2 c3 c4 c5 c6 c8 c9 c11 h
    obtain ⟨h1, h2⟩ := hb h
    exact ⟨fun e => by have := c2 (by omega); omega, fun e => by have := c3 (by omega); omega, fun e => by have := c4 (by omega); omega, fun e => by have := c5 (by omega); omega, fun e => by have := c6 (by omega); omega, fun e => ⟨by have := c8 (by omega); omega, h2⟩, fun e => absurd (ho.symm.trans e) c9, fun e => absurd (ho.symm.trans e) c11, hs⟩
  by_cases ho : x.op = 1
  · obtain ⟨b, h1, h2⟩ := formed37_1 ext h37 x ho
    exact ⟨b, h1, mkOk ho h2 (by omega) (by omega) (by omega) (by omega) (by omega) (by omega) (by omega) (by omega)⟩
  have n1 := ho; clear ho
  by_cases ho : x.op = 2
  · obtain ⟨b, h1, h2⟩ := formed37_2 ext h37 x ho
    exact ⟨b, h1, mkOk ho h2 (by omega) (by omega) (by omega) (by omega) (by omega) (by omega) (by omega) (by omega)⟩
  have n2 := ho; clear ho
  by_cases ho : x.op = 3
  · obtain ⟨b, h1, h2⟩ := formed37_3 ext h37 x ho
    exact ⟨b, h1, mkOk ho h2 (by omega) (by omega) (by omega) (by omega) (by omega) (by omega) (by omega) (by omega)⟩
  have n3 := ho; clear ho
  by_cases ho : x.op = 4
  · obtain ⟨b, h1, h2⟩ := formed37_4 ext h37 x ho
    exact ⟨b, h1, mkOk ho h2 (by omega) (by omega) (by omega) (by omega) (by omega) (by omega) (by omega) (by omega)⟩
  have n4 := ho; clear ho
  by_cases ho : x.op = 5
  · obtain ⟨b, h1, h2⟩ := formed37_5 ext h37 x ho
    exact ⟨b, h1, mkOk ho h2 (by omega) (by omega) (by omega) (by omega) (by omega) (by omega) (by omega) (by omega)⟩
  have n5 := ho; clear ho
  by_cases ho : x.op = 6
  · obtain ⟨b, h1, h2⟩ := formed37_6 ext h37 x ho
    exact ⟨b, h1, mkOk ho h2 (by omega) (by omega) (by omega) (by omega) (by omega) (by omega) (by omega) (by omega)⟩
  have n6 := ho; clear ho
  by_cases ho : x.op = 7
  · obtain ⟨b, h1, h2⟩ := formed37_7 ext h37 x ho
    exact ⟨b, h1, mkOk ho h2 (by omega) (by omega) (by omega) (by omega) (by omega) (by omega) (by omega) (by omega)⟩
  have n7 := ho; clear ho
  by_cases ho : x.op = 8
  · obtain ⟨b, h1, h2⟩ := formed37_8 ext h37 x ho
    exact ⟨b, h1, mkOk ho h2 (by omega) (by omega) (by omega) (by omega) (by omega) (by omega) (by omega) (by omega)⟩
  have n8 := ho; clear ho
  by_cases ho : x.op = 10
  · obtain ⟨b, h1, h2⟩ := formed37_10 ext h37 x (isName52 ext h52 h66 h76 h67 x.s) ho
    exact ⟨b, h1, mkOk ho h2 (by omega) (by omega) (by omega) (by omega) (by omega) (by omega) (by omega) (by omega)⟩
  have n10 := ho; clear ho
  by_cases ho : x.op = 12
  · obtain ⟨b, h1, h2⟩ := formed37_12 ext h37 x ho
    exact ⟨b, h1, mkOk ho h2 (by omega) (by omega) (by omega) (by omega) (by omega) (by omega) (by omega) (by omega)⟩
  have n12 := ho; clear ho
  by_cases ho : x.op = 9
  · obtain ⟨b, h1, h2⟩ := formed37_9 ext h37 x ho
    exact ⟨b, h1, fun h => ⟨by omega, by omega, by omega, by omega, by omega, by omega, fun _ => h2 h, by omega, hs⟩⟩
  have n9 := ho; clear ho
  by_cases ho : x.op = 11
  · obtain ⟨b, h1, h2⟩ := formed37_11 ext h37 x ho (shapes53 ext h53 h68 h77 h69 h70 h46 h58 h72 h73 h80 h81 h83 h87 x.s (by omega) _)
    refine ⟨b, h1, fun h => ⟨by omega, by omega, by omega, by omega, by omega, by omega, by omega, fun _ => ⟨(h2 h).1, ?_⟩, hs⟩⟩
    rcases (h2 h).2 with h3 | ⟨k, h3, h4⟩
    · exact .inl h3
    · have := (h2 h).1
      rw [wr_id (by omega) (by omega)] at h3
      have : x.l.length - 1 = k := by omega
      rw [this]
      exact .inr h4
  have n11 := ho; clear ho
  exact ⟨false, formed37_no ext h37 x n1 n2 n3 n4 n5 n6 n7 n8 n10 n12 n9 n11, fun h => by cases h⟩
end Go.Proofs.YtmjacokkgfophaaDoor.Am
end
section
/- Rules for lists of codes that are made: literals, append. -/
namespace Go.Proofs.YtmjacokkgfophaaDoor.Am
open Go
def cdA (x : Cd) : V := .agg [.d (.v (.int .i64 x.op)), .d (.v (.int .i64 x.n)), .d (.v (.string x.s)), .d (lD x)]
theorem toDs4 (look : Look) (x : Cd) : toDs look [.d (.v (.int .i64 x.op)), .d (.v (.int .i64 x.n)), .d (.v (.string x.s)), .d (lD x)] = some (encCd x, []) := toDs_cdC look x
theorem bs1 {look : Look} {slot : Nat} {x : Cd} : buildSliceA Tryd.prog look slot 23 1 [(0, (.agg [.d (.v (.int .i64 x.op)), .d (.v (.int .i64 x.n)), .d (.v (.string x.s)), .d (lD x)]))] = some ⟨.val (.c (.own slot)), [(slot, .arr 4 [encCd x])], []⟩ := by
  have e : zeroT Tryd.prog 25 ≠ none := by rw [zeroT_25]; simp
  simp only [buildSliceA, elemT_23, sizeT_25, List.map_cons, List.map_nil, toDss, cells, okC, List.all_cons, List.all_nil, Bool.and_self, ↓reduceIte, toDs4, List.append_nil, List.zip_cons_cons, List.zip_nil_right, inOrder, encCd_eq]
  rw [if_pos]
  · rfl
  · exact ⟨rfl, by decide, by decide, rfl, by rw [zeroT_25]; rfl⟩
theorem bs2 {look : Look} {slot : Nat} {x y : Cd} : buildSliceA Tryd.prog look slot 23 2 [(0, (.agg [.d (.v (.int .i64 x.op)), .d (.v (.int .i64 x.n)), .d (.v (.string x.s)), .d (lD x)])), (1, (.agg [.d (.v (.int .i64 y.op)), .d (.v (.int .i64 y.n)), .d (.v (.string y.s)), .d (lD y)]))] = some ⟨.val (.c (.own slot)), [(slot, .arr 4 [encCd x, encCd y])], []⟩ := by
  simp only [buildSliceA, elemT_23, sizeT_25, List.map_cons, List.map_nil, toDss, cells, okC, List.all_cons, List.all_nil, Bool.and_self, ↓reduceIte, toDs4, List.append_nil, List.zip_cons_cons, List.zip_nil_right, inOrder, encCd_eq]
  rw [if_pos]
  · rfl
  · exact ⟨rfl, by decide, by decide, rfl, by rw [zeroT_25]; rfl⟩
/-- The variable that was bound last. -/
def var0 : Cd := .mk 1 0 ⟨#[]⟩ [] true
theorem bsv {look : Look} {slot : Nat} {x : Cd} : buildSliceA Tryd.prog look slot 23 2 [(0, (.agg [.d (.v (.int .i64 x.op)), .d (.v (.int .i64 x.n)), .d (.v (.string x.s)), .d (lD x)])), (1, .agg [.d (.v (.int .i64 1)), .d (.v (.int .i64 0)), .d (.v (.string ⟨#[]⟩)), .d (.v (.slice none 0 0))])] = some ⟨.val (.c (.own slot)), [(slot, .arr 4 [encCd x, encCd var0])], []⟩ := bs2 (y := var0)
def apF (o : Option O) (slot id : Nat) (new : List (List D)) : Option Eff :=
  match o with
  | some (.arr k els) => if k = 4 ∧ (els.length + new.length) * 56 ≤ 140737488355328 ∧ els.length + new.length ≤ 9223372036854775807 then some ⟨.val (.c (.own slot)), [(id, .gone), (slot, .arr 4 (els ++ new))], [id]⟩ else none
  | _ => none
theorem appendA_own (look : Look) (slot id : Nat) (new : List (List D)) : appendA Tryd.prog look slot [23, 23] [.c (.own id), .c (.d (.s 4 new))] = apF (look id) slot id new := by
  have e : (zeroT Tryd.prog 25).map List.length = some 4 := by rw [zeroT_25]; rfl
  simp only [appendA, elemT_23, sizeT_25, bytesT_25, e, addedA, true_or, ↓reduceIte, ne_eq, not_true_eq_false, Nat.zero_lt_succ, true_and, and_self]
  unfold apF
  cases look id with
  | none => rfl
  | some o =>
    cases o with
    | arr k els =>
      dsimp only
      by_cases hk : k = 4 ∧ (els.length + new.length) * 56 ≤ 140737488355328 ∧ els.length + new.length ≤ 9223372036854775807
      · rw [if_pos hk, if_pos ⟨hk.1, hk.2.1, hk.2.2, rfl⟩]; rfl
      · rw [if_neg hk, if_neg fun h => hk ⟨h.1, h.2.1, h.2.2.1⟩]
    | _ => rfl
theorem apF_arr {slot id : Nat} {els new : List (List D)} (h2 : new.length ≤ 1000000000000) (h1 : els.length ≤ 1000000) :
    apF (some (.arr 4 els)) slot id new = some ⟨.val (.c (.own slot)), [(id, .gone), (slot, .arr 4 (els ++ new))], [id]⟩ := by
  unfold apF
  dsimp only
  rw [if_pos ⟨rfl, by omega, by omega⟩]
def coK (rec : Rec) (o : Option O) (slot : Nat) (f : FuncId) (v : V) (id : Nat) : Option Eff :=
  match o with
  | some (.arr k els) => callOut [] [id] slot (rec (.call f [v, .c (.d (.s k els))] []))
  | _ => none
theorem callA_nil (rec : Rec) (look : Look) (slot : Nat) (f : FuncId) : callA rec look slot f [] = callOut [] [] slot (rec (.call f [] [])) := callA_data rec rfl
theorem mapO_two {α γ : Type} {f : α → Option γ} {a b : α} {a' b' : γ} (h1 : f a = some a') (h2 : f b = some b') : mapO f [a, b] = some [a', b'] := by simp only [mapO, h1, h2]
theorem callA_v_own (rec : Rec) (look : Look) (slot : Nat) (f : FuncId) (v : V) (id : Nat) (hv : dataV v = true) : callA rec look slot f [v, .c (.own id)] = coK rec (look id) slot f v id := by
  obtain ⟨h1, h2, h3⟩ := argV_data (look := look) hv
  have ho : argV look (.c (.own id)) = match look id with | some (.arr k els) => some (.c (.d (.s k els)), [id]) | _ => none := by
    simp only [argV, argC]
    cases look id with
    | none => rfl
    | some o => cases o <;> rfl
  unfold callA callPrep coK
  simp only [argVs, h1, ho]
  cases look id with
  | none => rfl
  | some o =>
    cases o with
    | arr k els =>
      dsimp only
      have e : (v :: V.c (C.d (D.s k els)) :: []).flatMap refsV = [] := by rw [List.flatMap_cons, h2]; rfl
      simp only [List.append_nil, List.nil_append]
      rw [e]
      have hr : Am.reach look 200 [] [] = [] := rfl
      have hm : mapO (renV (pos [])) [v, V.c (C.d (D.s k els))] = some [v, V.c (C.d (D.s k els))] := mapO_two (h3 _) rfl
      rw [hr, hm]
      rfl
    | _ => rfl
theorem coK_arr (rec : Rec) (k : Nat) (els : List (List D)) (slot : Nat) (f : FuncId) (v : V) (id : Nat) : coK rec (some (.arr k els)) slot f v id = callOut [] [id] slot (rec (.call f [v, .c (.d (.s k els))] [])) := rfl
theorem callOut_cd (id slot : Nat) (a b c : Value) (k : Nat) (els : List (List D)) : callOut [] [id] slot (some (.ret [.agg [.d (.v a), .d (.v b), .d (.v c), .d (.s k els)]] [])) = some ⟨.val (.agg [.d (.v a), .d (.v b), .d (.v c), .d (.s k els)]), [(id, .gone)], [id]⟩ := rfl
theorem callOut_cs (slot : Nat) (cs : List C) (x : D) (h : cs.all dataC = true) : callOut [] [] slot (some (.ret [.agg cs, .c (.d x)] [])) = some ⟨.val (.tup [(true, cs), (false, [.d x])]), [], []⟩ := by
  obtain ⟨_, _, h3⟩ := argCs_data (look := fun _ => none) h
  simp only [callOut, answer, mapO, renV, h3, renC, results1, comp, List.length_nil, Nat.lt_irrefl, if_false]
  split <;> rfl
theorem lD_cons (o n : Int) (s : ByteArray) (a : Cd) (l : List Cd) (z : Bool) : lD (.mk o n s (a :: l) z) = .s 4 (encCd a :: l.map encCd) := lD_eq (by simp [Cd.l])
theorem cdV_lit1 (o : Int) (a : Cd) (z : Bool) : cdV (.mk o 0 ⟨#[]⟩ [a] z) = .agg [.d (.v (.int .i64 o)), .d (.v (.int .i64 0)), .d (.v (.string ⟨#[]⟩)), .d (.s 4 [encCd a])] := by
  simp only [cdV, cdC, lD_cons, Cd.op, Cd.n, Cd.s, List.map_nil]
theorem cdV_lit2 (o : Int) (a b : Cd) (z : Bool) : cdV (.mk o 0 ⟨#[]⟩ [a, b] z) = .agg [.d (.v (.int .i64 o)), .d (.v (.int .i64 0)), .d (.v (.string ⟨#[]⟩)), .d (.s 4 [encCd a, encCd b])] := by
  simp only [cdV, cdC, lD_cons, Cd.op, Cd.n, Cd.s, List.map_cons, List.map_nil]
theorem cdV_box : cdV (.mk 7 0 ⟨#[]⟩ [] true) = .agg [.d (.v (.int .i64 7)), .d (.v (.int .i64 0)), .d (.v (.string ⟨#[]⟩)), .d (.v (.slice none 0 0))] := rfl
end Go.Proofs.YtmjacokkgfophaaDoor.Am
end
section
/- hypotheses: the values of the hypotheses of an argument by a shape. -/
namespace Go.Proofs.YtmjacokkgfophaaDoor.Am
open Go
variable (ext : Ext)
set_option maxHeartbeats 4000000
set_option maxRecDepth 10000
theorem r47 (hx : ext 47 = none) (s : ByteArray) (fx x : Cd) (hb : s[(0 : Int).toNat]? = some 114) (c1 : (1 : Int) ≤ s.size) (hl : (1 : Int) ≤ fx.l.length) (hlt : (0 : Int) < fx.l.length) (hm : fx.l.length ≤ 1000000000000) :
    run Tryd.prog ext (.call 47 [sV s, cdV fx, cdV x] []) = some (.ret [.agg [.d (.v (.int .i64 fx.op)), .d (.v (.int .i64 fx.n)), .d (.v (.string fx.s)), .d (.s 4 ([encCd x] ++ List.drop (1 : Int).toNat (List.take fx.l.length (List.map encCd fx.l))))], sV (s.extract (1 : Int).toNat s.size)] []) := by
  have z0 : (0 : Int) ≤ 0 := Int.le_refl _
  have z1 : (0 : Int) ≤ 1 := by decide
  have e1 : (((114 : UInt8).toNat : Int) == 114) = true := by decide
  have hnew : (List.drop (1 : Int).toNat (List.take fx.l.length (List.map encCd fx.l))).length ≤ 1000000000000 := by simp; omega
  (rw [run_eq]; simp only [stepA, hx, Tryd.func47, Tryd.f47]; simp only [List.length_cons, List.length_nil, Nat.reduceAdd, Nat.reduceLeDiff, Nat.zero_le, ↓reduceIte, List.zipIdx_cons, List.zipIdx_nil, List.map_cons, List.map_nil])
  simp only [cdV, cdC, iV, bV, sV, lD_of_lt z0 hlt]
  simp only [zS, wantedA, opA, eff, boxA, cells, ev, gt, pt, putO, updO, setO, okC, loadA, cutC, fieldAddrA, fieldA, indexAddrA, indexA, builtinA, callOpA, callV, target, ptrV, lenS, binA, intOp, strOp, unA, num, lk, over, allocA, pickA, buildA, fillA, convertA, extractA, ofComp, nilCheckA, makeFuncA, ptrs, ofValue, cellB, Nat.reduceAdd, Nat.reduceSub, Nat.reduceMul, Nat.reduceLT, Nat.reduceLeDiff, Nat.reduceGT, ↓reduceIte, Nat.reduceEqDiff, Nat.reduceBEq, reduceCtorEq, Int.reduceBEq, Int.reduceBNe, Int.reduceLT, Int.reduceLE, Int.reduceGT, Int.reduceGE, aggT_25, sizeT_25, bytesT_25, fieldT_25_0, fieldT_25_1, fieldT_25_2, fieldT_25_3, placesT_25, zeroT_25, aggT_23, sizeT_23, bytesT_23, und_23, elemT_23, zero1_23, zeroT_23, aggT_9, sizeT_9, bytesT_9, und_9, zero1_9, zeroT_9, aggT_3, sizeT_3, bytesT_3, und_3, zero1_3, zeroT_3, aggT_4, sizeT_4, bytesT_4, und_4, zero1_4, zeroT_4, aggT_5, sizeT_5, bytesT_5, und_5, zero1_5, zeroT_5, hb, c1, hl, z0, z1, e1, sliceA, bound, drawA, holes_succ, holes_zero, Array.size, List.length, bs1, appendA_own, apF_arr hnew (show [encCd x].length ≤ 1000000 by simp)]
  rw [afterDraw_some _ _ _ _ (by kernel_rfl)]
  simp only [zS, wantedA, opA, eff, boxA, cells, ev, gt, pt, putO, updO, setO, okC, loadA, cutC, fieldAddrA, fieldA, indexAddrA, indexA, builtinA, callOpA, callV, target, ptrV, lenS, binA, intOp, strOp, unA, num, lk, over, allocA, pickA, buildA, fillA, convertA, extractA, ofComp, nilCheckA, makeFuncA, ptrs, ofValue, cellB, Nat.reduceAdd, Nat.reduceSub, Nat.reduceMul, Nat.reduceLT, Nat.reduceLeDiff, Nat.reduceGT, ↓reduceIte, Nat.reduceEqDiff, Nat.reduceBEq, reduceCtorEq, Int.reduceBEq, Int.reduceBNe, Int.reduceLT, Int.reduceLE, Int.reduceGT, Int.reduceGE, aggT_25, sizeT_25, bytesT_25, fieldT_25_0, fieldT_25_1, fieldT_25_2, fieldT_25_3, placesT_25, zeroT_25, aggT_23, sizeT_23, bytesT_23, und_23, elemT_23, zero1_23, zeroT_23, aggT_9, sizeT_9, bytesT_9, und_9, zero1_9, zeroT_9, aggT_3, sizeT_3, bytesT_3, und_3, zero1_3, zeroT_3, aggT_4, sizeT_4, bytesT_4, und_4, zero1_4, zeroT_4, aggT_5, sizeT_5, bytesT_5, und_5, zero1_5, zeroT_5]
  (refine Eq.trans ?_ rfl; kernel_rfl)
theorem dot47 (hx : ext 47 = none) (h28 : ext 28 = none) (s : ByteArray) (fx x : Cd) (hb : s[(0 : Int).toNat]? = some 46) (c1 : (1 : Int) ≤ s.size) :
    run Tryd.prog ext (.call 47 [sV s, cdV fx, cdV x] []) = some (.ret [cdV (.mk 7 0 ⟨#[]⟩ [] true), sV (s.extract (1 : Int).toNat s.size)] []) := by
  have z0 : (0 : Int) ≤ 0 := Int.le_refl _
  have z1 : (0 : Int) ≤ 1 := by decide
  have e1 : (((46 : UInt8).toNat : Int) == 114) = false := by decide
  have e2 : (((46 : UInt8).toNat : Int) == 102) = false := by decide
  have e3 : (((46 : UInt8).toNat : Int) == 112) = false := by decide
  have hbx := box28 ext h28
  rw [cdV_box] at hbx
  (rw [run_eq]; simp only [stepA, hx, Tryd.func47, Tryd.f47]; simp only [List.length_cons, List.length_nil, Nat.reduceAdd, Nat.reduceLeDiff, Nat.zero_le, ↓reduceIte, List.zipIdx_cons, List.zipIdx_nil, List.map_cons, List.map_nil])
  simp only [cdV, cdC, iV, bV, sV]
  simp only [zS, wantedA, opA, eff, boxA, cells, ev, gt, pt, putO, updO, setO, okC, loadA, cutC, fieldAddrA, fieldA, indexAddrA, indexA, builtinA, callOpA, callV, target, ptrV, lenS, binA, intOp, strOp, unA, num, lk, over, allocA, pickA, buildA, fillA, convertA, extractA, ofComp, nilCheckA, makeFuncA, ptrs, ofValue, cellB, Nat.reduceAdd, Nat.reduceSub, Nat.reduceMul, Nat.reduceLT, Nat.reduceLeDiff, Nat.reduceGT, ↓reduceIte, Nat.reduceEqDiff, Nat.reduceBEq, reduceCtorEq, Int.reduceBEq, Int.reduceBNe, Int.reduceLT, Int.reduceLE, Int.reduceGT, Int.reduceGE, aggT_25, sizeT_25, bytesT_25, fieldT_25_0, fieldT_25_1, fieldT_25_2, fieldT_25_3, placesT_25, zeroT_25, aggT_23, sizeT_23, bytesT_23, und_23, elemT_23, zero1_23, zeroT_23, aggT_9, sizeT_9, bytesT_9, und_9, zero1_9, zeroT_9, aggT_3, sizeT_3, bytesT_3, und_3, zero1_3, zeroT_3, aggT_4, sizeT_4, bytesT_4, und_4, zero1_4, zeroT_4, aggT_5, sizeT_5, bytesT_5, und_5, zero1_5, zeroT_5, hb, c1, z0, z1, e1, e2, e3, sliceA, bound, callA_nil, hbx]
  (refine Eq.trans ?_ rfl; kernel_rfl)
theorem f47 (hx : ext 47 = none) (h45 : ext 45 = none) (s r : ByteArray) (fx x fx' x' out : Cd) (hb : s[(0 : Int).toNat]? = some 102) (c1 : (1 : Int) ≤ s.size)
    (h1 : run Tryd.prog ext (.call 44 [cdV fx, iV 1, iV 0] []) = some (.ret [cdV fx'] [])) (h2 : run Tryd.prog ext (.call 44 [cdV x, iV 1, iV 0] []) = some (.ret [cdV x'] []))
    (h3 : run Tryd.prog ext (.call 47 [sV (s.extract (1 : Int).toNat s.size), cdV fx', cdV (.mk 3 0 ⟨#[]⟩ [x', var0] false)] []) = some (.ret [cdV out, sV r] [])) :
    run Tryd.prog ext (.call 47 [sV s, cdV fx, cdV x] []) = some (.ret [cdV (.mk 2 0 ⟨#[]⟩ [out] false), sV r] []) := by
  have z0 : (0 : Int) ≤ 0 := Int.le_refl _
  have z1 : (0 : Int) ≤ 1 := by decide
  have e1 : (((102 : UInt8).toNat : Int) == 114) = false := by decide
  have e2 : (((102 : UInt8).toNat : Int) == 102) = true := by decide
  have g1 := op45 ext h45 3 (.s 4 [encCd x', encCd var0])
  have g2 := op45 ext h45 2 (.s 4 [encCd out])
  rw [cdV_lit2] at h3
  rw [cdV_lit1]
  (rw [run_eq]; simp only [stepA, hx, Tryd.func47, Tryd.f47]; simp only [List.length_cons, List.length_nil, Nat.reduceAdd, Nat.reduceLeDiff, Nat.zero_le, ↓reduceIte, List.zipIdx_cons, List.zipIdx_nil, List.map_cons, List.map_nil])
  simp only [cdV, cdC, iV, bV, sV] at h1 h2 h3 g1 g2 ⊢
  simp only [zS, wantedA, opA, eff, boxA, cells, ev, gt, pt, putO, updO, setO, okC, loadA, cutC, fieldAddrA, fieldA, indexAddrA, indexA, builtinA, callOpA, callV, target, ptrV, lenS, binA, intOp, strOp, unA, num, lk, over, allocA, pickA, buildA, fillA, convertA, extractA, ofComp, nilCheckA, makeFuncA, ptrs, ofValue, cellB, Nat.reduceAdd, Nat.reduceSub, Nat.reduceMul, Nat.reduceLT, Nat.reduceLeDiff, Nat.reduceGT, ↓reduceIte, Nat.reduceEqDiff, Nat.reduceBEq, reduceCtorEq, Int.reduceBEq, Int.reduceBNe, Int.reduceLT, Int.reduceLE, Int.reduceGT, Int.reduceGE, aggT_25, sizeT_25, bytesT_25, fieldT_25_0, fieldT_25_1, fieldT_25_2, fieldT_25_3, placesT_25, zeroT_25, aggT_23, sizeT_23, bytesT_23, und_23, elemT_23, zero1_23, zeroT_23, aggT_9, sizeT_9, bytesT_9, und_9, zero1_9, zeroT_9, aggT_3, sizeT_3, bytesT_3, und_3, zero1_3, zeroT_3, aggT_4, sizeT_4, bytesT_4, und_4, zero1_4, zeroT_4, aggT_5, sizeT_5, bytesT_5, und_5, zero1_5, zeroT_5, hb, c1, z0, z1, e1, e2, sliceA, bound, drawA, holes_succ, holes_zero, Array.size, List.length, h1, h2, h3, g1, bsv, callA_v_own, coK_arr, callOut_cd, callOut_cs]
  rw [afterDraw_some _ _ _ _ (by kernel_rfl)]
  simp only [zS, wantedA, opA, eff, boxA, cells, ev, gt, pt, putO, updO, setO, okC, loadA, cutC, fieldAddrA, fieldA, indexAddrA, indexA, builtinA, callOpA, callV, target, ptrV, lenS, binA, intOp, strOp, unA, num, lk, over, allocA, pickA, buildA, fillA, convertA, extractA, ofComp, nilCheckA, makeFuncA, ptrs, ofValue, cellB, Nat.reduceAdd, Nat.reduceSub, Nat.reduceMul, Nat.reduceLT, Nat.reduceLeDiff, Nat.reduceGT, ↓reduceIte, Nat.reduceEqDiff, Nat.reduceBEq, reduceCtorEq, Int.reduceBEq, Int.reduceBNe, Int.reduceLT, Int.reduceLE, Int.reduceGT, Int.reduceGE, aggT_25, sizeT_25, bytesT_25, fieldT_25_0, fieldT_25_1, fieldT_25_2, fieldT_25_3, placesT_25, zeroT_25, aggT_23, sizeT_23, bytesT_23, und_23, elemT_23, zero1_23, zeroT_23, aggT_9, sizeT_9, bytesT_9, und_9, zero1_9, zeroT_9, aggT_3, sizeT_3, bytesT_3, und_3, zero1_3, zeroT_3, aggT_4, sizeT_4, bytesT_4, und_4, zero1_4, zeroT_4, aggT_5, sizeT_5, bytesT_5, und_5, zero1_5, zeroT_5, bs1, callA_v_own, coK_arr, callOut_cd, g2]
  (refine Eq.trans ?_ rfl; kernel_rfl)
theorem p47 (hx : ext 47 = none) (h45 : ext 45 = none) (s r r' : ByteArray) (fx x a b : Cd) (hb : s[(0 : Int).toNat]? = some 112) (c1 : (1 : Int) ≤ s.size)
    (h1 : run Tryd.prog ext (.call 47 [sV (s.extract (1 : Int).toNat s.size), cdV fx, cdV (.mk 5 0 ⟨#[]⟩ [x] false)] []) = some (.ret [cdV a, sV r] [])) (h2 : run Tryd.prog ext (.call 47 [sV r, cdV fx, cdV (.mk 6 0 ⟨#[]⟩ [x] false)] []) = some (.ret [cdV b, sV r'] [])) :
    run Tryd.prog ext (.call 47 [sV s, cdV fx, cdV x] []) = some (.ret [cdV (.mk 4 0 ⟨#[]⟩ [a, b] false), sV r'] []) := by
  have z0 : (0 : Int) ≤ 0 := Int.le_refl _
  have z1 : (0 : Int) ≤ 1 := by decide
  have e1 : (((112 : UInt8).toNat : Int) == 114) = false := by decide
  have e2 : (((112 : UInt8).toNat : Int) == 102) = false := by decide
  have e3 : (((112 : UInt8).toNat : Int) == 112) = true := by decide
  have g1 := op45 ext h45 5 (.s 4 [encCd x])
  have g2 := op45 ext h45 6 (.s 4 [encCd x])
  have g3 := op45 ext h45 4 (.s 4 [encCd a, encCd b])
  rw [cdV_lit1] at h1 h2
  rw [cdV_lit2]
  (rw [run_eq]; simp only [stepA, hx, Tryd.func47, Tryd.f47]; simp only [List.length_cons, List.length_nil, Nat.reduceAdd, Nat.reduceLeDiff, Nat.zero_le, ↓reduceIte, List.zipIdx_cons, List.zipIdx_nil, List.map_cons, List.map_nil])
  simp only [cdV, cdC, iV, bV, sV] at h1 h2 g1 g2 g3 ⊢
  simp only [zS, wantedA, opA, eff, boxA, cells, ev, gt, pt, putO, updO, setO, okC, loadA, cutC, fieldAddrA, fieldA, indexAddrA, indexA, builtinA, callOpA, callV, target, ptrV, lenS, binA, intOp, strOp, unA, num, lk, over, allocA, pickA, buildA, fillA, convertA, extractA, ofComp, nilCheckA, makeFuncA, ptrs, ofValue, cellB, Nat.reduceAdd, Nat.reduceSub, Nat.reduceMul, Nat.reduceLT, Nat.reduceLeDiff, Nat.reduceGT, ↓reduceIte, Nat.reduceEqDiff, Nat.reduceBEq, reduceCtorEq, Int.reduceBEq, Int.reduceBNe, Int.reduceLT, Int.reduceLE, Int.reduceGT, Int.reduceGE, aggT_25, sizeT_25, bytesT_25, fieldT_25_0, fieldT_25_1, fieldT_25_2, fieldT_25_3, placesT_25, zeroT_25, aggT_23, sizeT_23, bytesT_23, und_23, elemT_23, zero1_23, zeroT_23, aggT_9, sizeT_9, bytesT_9, und_9, zero1_9, zeroT_9, aggT_3, sizeT_3, bytesT_3, und_3, zero1_3, zeroT_3, aggT_4, sizeT_4, bytesT_4, und_4, zero1_4, zeroT_4, aggT_5, sizeT_5, bytesT_5, und_5, zero1_5, zeroT_5, hb, c1, z0, z1, e1, e2, e3, sliceA, bound, drawA, holes_succ, holes_zero, Array.size, List.length, h1, g1, bs1, callA_v_own, coK_arr, callOut_cd, callOut_cs]
  rw [afterDraw_some _ _ _ _ (by kernel_rfl)]
  simp only [zS, wantedA, opA, eff, boxA, cells, ev, gt, pt, putO, updO, setO, okC, loadA, cutC, fieldAddrA, fieldA, indexAddrA, indexA, builtinA, callOpA, callV, target, ptrV, lenS, binA, intOp, strOp, unA, num, lk, over, allocA, pickA, buildA, fillA, convertA, extractA, ofComp, nilCheckA, makeFuncA, ptrs, ofValue, cellB, Nat.reduceAdd, Nat.reduceSub, Nat.reduceMul, Nat.reduceLT, Nat.reduceLeDiff, Nat.reduceGT, ↓reduceIte, Nat.reduceEqDiff, Nat.reduceBEq, reduceCtorEq, Int.reduceBEq, Int.reduceBNe, Int.reduceLT, Int.reduceLE, Int.reduceGT, Int.reduceGE, aggT_25, sizeT_25, bytesT_25, fieldT_25_0, fieldT_25_1, fieldT_25_2, fieldT_25_3, placesT_25, zeroT_25, aggT_23, sizeT_23, bytesT_23, und_23, elemT_23, zero1_23, zeroT_23, aggT_9, sizeT_9, bytesT_9, und_9, zero1_9, zeroT_9, aggT_3, sizeT_3, bytesT_3, und_3, zero1_3, zeroT_3, aggT_4, sizeT_4, bytesT_4, und_4, zero1_4, zeroT_4, aggT_5, sizeT_5, bytesT_5, und_5, zero1_5, zeroT_5, drawA, holes_succ, holes_zero, Array.size, List.length, h2, g2, bs1, callA_v_own, coK_arr, callOut_cd, callOut_cs]
  rw [afterDraw_some _ _ _ _ (by kernel_rfl)]
  simp only [zS, wantedA, opA, eff, boxA, cells, ev, gt, pt, putO, updO, setO, okC, loadA, cutC, fieldAddrA, fieldA, indexAddrA, indexA, builtinA, callOpA, callV, target, ptrV, lenS, binA, intOp, strOp, unA, num, lk, over, allocA, pickA, buildA, fillA, convertA, extractA, ofComp, nilCheckA, makeFuncA, ptrs, ofValue, cellB, Nat.reduceAdd, Nat.reduceSub, Nat.reduceMul, Nat.reduceLT, Nat.reduceLeDiff, Nat.reduceGT, ↓reduceIte, Nat.reduceEqDiff, Nat.reduceBEq, reduceCtorEq, Int.reduceBEq, Int.reduceBNe, Int.reduceLT, Int.reduceLE, Int.reduceGT, Int.reduceGE, aggT_25, sizeT_25, bytesT_25, fieldT_25_0, fieldT_25_1, fieldT_25_2, fieldT_25_3, placesT_25, zeroT_25, aggT_23, sizeT_23, bytesT_23, und_23, elemT_23, zero1_23, zeroT_23, aggT_9, sizeT_9, bytesT_9, und_9, zero1_9, zeroT_9, aggT_3, sizeT_3, bytesT_3, und_3, zero1_3, zeroT_3, aggT_4, sizeT_4, bytesT_4, und_4, zero1_4, zeroT_4, aggT_5, sizeT_5, bytesT_5, und_5, zero1_5, zeroT_5, bs2, callA_v_own, coK_arr, callOut_cd, g3]
  (refine Eq.trans ?_ rfl; kernel_rfl)
theorem WF.fixWith {ext : Ext} {fx x : Cd} (h : WF ext fx) (hx : WF ext x) (h1 : 1 ≤ fx.l.length) : WF ext (.mk fx.op fx.n fx.s (x :: fx.l.drop 1) false) := by
  refine h.with (by simp; omega) fun y hy => ?_
  rcases List.mem_cons.1 hy with rfl | hy
  · exact hx
  · exact h.part (List.mem_of_mem_drop hy)
theorem drop_sum_le (l : List Cd) : ((l.drop 1).map Cd.size).sum ≤ (l.map Cd.size).sum := by
  cases l with
  | nil => simp
  | cons a r => simp
/-- A bound of what comes of so much of a shape. -/
def hb (k m : Nat) : Nat := k * (m + 2 * k)
theorem hb_f {k m : Nat} (hm : 1 ≤ m) : 1 + hb k (m + 2) ≤ hb (k + 1) m := by
  unfold hb
  have e : (k + 1) * (m + 2 * (k + 1)) = k * (m + 2 + 2 * k) + (m + 2 + 2 * k) := by
    have e1 : m + 2 * (k + 1) = m + 2 + 2 * k := by omega
    rw [e1, Nat.add_mul, Nat.one_mul]
  rw [e]; omega
theorem hb_p {a b m : Nat} (hm : 1 ≤ m) : 1 + hb a (m + 1) + hb b (m + 1) ≤ hb (a + b + 1) m := by
  unfold hb
  have e : (a + b + 1) * (m + 2 * (a + b + 1)) = a * (m + 2 * (a + b + 1)) + b * (m + 2 * (a + b + 1)) + (m + 2 * (a + b + 1)) := by rw [Nat.add_mul, Nat.add_mul, Nat.one_mul]
  have h1 : a * (m + 1 + 2 * a) ≤ a * (m + 2 * (a + b + 1)) := Nat.mul_le_mul_left a (by omega)
  have h2 : b * (m + 1 + 2 * b) ≤ b * (m + 2 * (a + b + 1)) := Nat.mul_le_mul_left b (by omega)
  rw [e]; omega
theorem hyp47 (h47 : ext 47 = none) (h45 : ext 45 = none) (h44 : ext 44 = none) (h28 : ext 28 = none) {s r : ByteArray} (h : One s r) : ∀ (fx x : Cd), WF ext fx → WF ext x → 1 ≤ fx.l.length → fx.size ≤ 1000000000 → x.size + 2 * s.size ≤ 1000000000 →
    ∃ out, run Tryd.prog ext (.call 47 [sV s, cdV fx, cdV x] []) = some (.ret [cdV out, sV r] []) ∧ WF ext out ∧ out.size ≤ hb (s.size - r.size) (fx.size + x.size) := by
  have e1 : (1 : Int).toNat = 1 := rfl
  induction h with
  | @end_ s b hb h1 =>
    intro fx x hf hx hl hfs hxs
    have h0 := size_of_get hb
    have hb' : s[(0 : Int).toNat]? = some b := hb
    have hsz : s.size - (s.extract 1 s.size).size = 1 := by simp; omega
    rw [hsz]
    rcases h1 with rfl | rfl
    · refine ⟨_, dot47 ext h47 h28 s fx x hb' (by omega), WF.box, ?_⟩
      rw [size_mk]; have := x.size_pos; simp only [Am.hb, List.map_nil, List.sum_nil]; omega
    · have hlen := fx.len_lt
      refine ⟨.mk fx.op fx.n fx.s (x :: fx.l.drop 1) false, ?_, hf.fixWith hx hl, ?_⟩
      · rw [r47 ext h47 s fx x hb' (by omega) (by omega) (by omega) (by omega)]
        have : List.drop (1 : Int).toNat (List.take fx.l.length (List.map encCd fx.l)) = (fx.l.drop 1).map encCd := by rw [e1, List.take_of_length_le (by simp), List.map_drop]
        rw [this]
        simp only [cdV, cdC, lD_cons, Cd.op, Cd.n, Cd.s, e1]
        rfl
      · rw [size_mk, fx.size_eq]
        have := drop_sum_le fx.l
        simp only [List.map_cons, List.sum_cons, Am.hb]; omega
  | @fn s r hb h1 ih =>
    intro fx x hf hx hl hfs hxs
    have h0 := size_of_get hb
    have hb' : s[(0 : Int).toNat]? = some 102 := hb
    have hlt := h1.lt
    have hsz : (s.extract 1 s.size).size = s.size - 1 := by simp
    have hf' := size_shift fx.size fx 1 0 (Nat.le_refl _)
    have hx' := size_shift x.size x 1 0 (Nat.le_refl _)
    have ha : (Cd.mk 3 0 ⟨#[]⟩ [x.shift 1 0, var0] false).size = x.size + 2 := by rw [size_mk]; simp [hx', var0, size_mk]; omega
    obtain ⟨out, g1, g2, g3⟩ := ih (fx.shift 1 0) (.mk 3 0 ⟨#[]⟩ [x.shift 1 0, var0] false) (WF.shift _ _ _ _ (Nat.le_refl _) hf) (WF.app2 (WF.shift _ _ _ _ (Nat.le_refl _) hx) (WF.var 0 true) _)
      (by rw [Cd.shift_eq]; split <;> simp [Cd.l] <;> exact hl) (by omega) (by rw [ha, hsz]; omega)
    refine ⟨.mk 2 0 ⟨#[]⟩ [out] false, f47 ext h47 h45 s r fx x _ _ out hb' (by omega) (shift44 ext h44 _ fx 1 0 (Nat.le_refl _) (by omega)) (shift44 ext h44 _ x 1 0 (Nat.le_refl _) (by omega)) g1, WF.lam1 g2 _, ?_⟩
    rw [size_mk]
    rw [ha, hf', hsz] at g3
    have h2 := hb_f (k := s.size - 1 - r.size) (m := fx.size + x.size) (by have := x.size_pos; omega)
    have e : s.size - r.size = s.size - 1 - r.size + 1 := by omega
    rw [e]
    simp only [List.map_cons, List.map_nil, List.sum_cons, List.sum_nil]
    have e2 : fx.size + (x.size + 2) = fx.size + x.size + 2 := by omega
    rw [e2] at g3
    omega
  | @pair s r r' hb h1 h2 ih1 ih2 =>
    intro fx x hf hx hl hfs hxs
    have h0 := size_of_get hb
    have hb' : s[(0 : Int).toNat]? = some 112 := hb
    have hlt1 := h1.lt
    have hlt2 := h2.lt
    have hsz : (s.extract 1 s.size).size = s.size - 1 := by simp
    have s1 : (Cd.mk 5 0 ⟨#[]⟩ [x] false).size = x.size + 1 := by rw [size_mk]; simp; omega
    have s2 : (Cd.mk 6 0 ⟨#[]⟩ [x] false).size = x.size + 1 := by rw [size_mk]; simp; omega
    obtain ⟨a, g1, g2, g3⟩ := ih1 fx (.mk 5 0 ⟨#[]⟩ [x] false) hf (WF.fst1 hx _) hl hfs (by rw [s1, hsz]; omega)
    obtain ⟨b, k1, k2, k3⟩ := ih2 fx (.mk 6 0 ⟨#[]⟩ [x] false) hf (WF.snd1 hx _) hl hfs (by rw [s2]; omega)
    refine ⟨.mk 4 0 ⟨#[]⟩ [a, b] false, p47 ext h47 h45 s r r' fx x a b hb' (by omega) g1 k1, WF.pair2 g2 k2 _, ?_⟩
    rw [size_mk]
    rw [s1, hsz] at g3
    rw [s2] at k3
    have h3 := hb_p (a := s.size - 1 - r.size) (b := r.size - r'.size) (m := fx.size + x.size) (by have := x.size_pos; omega)
    have e : s.size - r'.size = s.size - 1 - r.size + (r.size - r'.size) + 1 := by omega
    rw [e]
    simp only [List.map_cons, List.map_nil, List.sum_cons, List.sum_nil]
    have e2 : fx.size + (x.size + 1) = fx.size + x.size + 1 := by omega
    rw [e2] at g3 k3
    omega
end Go.Proofs.YtmjacokkgfophaaDoor.Am
end
section
/- chosen: the method of an OCase or OFix for a constructor, applied. -/
namespace Go.Proofs.YtmjacokkgfophaaDoor.Am
open Go
variable (ext : Ext)
set_option maxHeartbeats 4000000
set_option maxRecDepth 10000
theorem mapd_enc (y : Cd) : List.map C.d (encCd y) = [.d (.v (.int .i64 y.op)), .d (.v (.int .i64 y.n)), .d (.v (.string y.s)), .d (lD y)] := by rw [encCd_eq]; rfl
def bx : Cd := .mk 7 0 ⟨#[]⟩ [] true
def app (a b : Cd) : Cd := .mk 3 0 ⟨#[]⟩ [a, b] false
theorem bsb {look : Look} {slot : Nat} {x : Cd} : buildSliceA Tryd.prog look slot 23 2 [(0, .agg [.d (.v (.int .i64 x.op)), .d (.v (.int .i64 x.n)), .d (.v (.string x.s)), .d (lD x)]), (1, .agg [.d (.v (.int .i64 7)), .d (.v (.int .i64 0)), .d (.v (.string ⟨#[]⟩)), .d (.v (.slice none 0 0))])] = some ⟨.val (.c (.own slot)), [(slot, .arr 4 [encCd x, encCd bx])], []⟩ := bs2 (y := bx)
theorem bsa {look : Look} {slot : Nat} {a b y : Cd} : buildSliceA Tryd.prog look slot 23 2 [(0, .agg [.d (.v (.int .i64 3)), .d (.v (.int .i64 0)), .d (.v (.string ⟨#[]⟩)), .d (.s 4 [encCd a, encCd b])]), (1, .agg [.d (.v (.int .i64 y.op)), .d (.v (.int .i64 y.n)), .d (.v (.string y.s)), .d (lD y)])] = some ⟨.val (.c (.own slot)), [(slot, .arr 4 [encCd (app a b), encCd y])], []⟩ := by
  have := bs2 (look := look) (slot := slot) (x := app a b) (y := y)
  rw [show lD (app a b) = .s 4 [encCd a, encCd b] from lD_cons _ _ _ _ _ _] at this
  exact this
theorem case30 (hx : ext 30 = none) (h28 : ext 28 = none) (h45 : ext 45 = none) (x e m a : Cd) (ho : x.op = 9) (h0 : 0 ≤ e.n) (hw : wr (1 + e.n) = 1 + e.n) (hl : 1 + e.n < x.l.length) (h1 : 0 ≤ 1 + e.n) (hm : x.l[(1 + e.n).toNat]? = some m) (hz : (0 : Int) < e.l.length) (ha : e.l[(0 : Int).toNat]? = some a) :
    run Tryd.prog ext (.call 30 [cdV x, cdV e] []) = some (.ret [cdV (app (app m bx) a)] []) := by
  have z0 : (0 : Int) ≤ 0 := Int.le_refl _
  have hbx := box28 ext h28
  rw [cdV_box] at hbx
  have g1 := op45 ext h45 3 (.s 4 [encCd m, encCd bx])
  have g2 := op45 ext h45 3 (.s 4 [encCd (app m bx), encCd a])
  rw [show cdV (app (app m bx) a) = _ from cdV_lit2 _ _ _ _]
  simp only [iV] at g1 g2
  (rw [run_eq]; simp only [stepA, hx, Tryd.func30, Tryd.f30]; simp only [List.length_cons, List.length_nil, Nat.reduceAdd, Nat.reduceLeDiff, Nat.zero_le, ↓reduceIte, List.zipIdx_cons, List.zipIdx_nil, List.map_cons, List.map_nil])
  simp only [cdV, cdC, lD_of_lt h1 hl, lD_of_lt z0 hz]
  simp only [zS, wantedA, opA, eff, boxA, cells, ev, gt, pt, putO, updO, setO, okC, loadA, cutC, fieldAddrA, fieldA, indexAddrA, indexA, builtinA, callOpA, callV, target, ptrV, lenS, binA, intOp, strOp, unA, num, lk, over, allocA, pickA, buildA, fillA, convertA, extractA, ofComp, nilCheckA, makeFuncA, ptrs, ofValue, cellB, Nat.reduceAdd, Nat.reduceSub, Nat.reduceMul, Nat.reduceLT, Nat.reduceLeDiff, Nat.reduceGT, ↓reduceIte, Nat.reduceEqDiff, Nat.reduceBEq, reduceCtorEq, Int.reduceBEq, Int.reduceBNe, Int.reduceLT, Int.reduceLE, Int.reduceGT, Int.reduceGE, aggT_25, sizeT_25, bytesT_25, fieldT_25_0, fieldT_25_1, fieldT_25_2, fieldT_25_3, placesT_25, zeroT_25, aggT_23, sizeT_23, bytesT_23, und_23, elemT_23, zero1_23, zeroT_23, aggT_9, sizeT_9, bytesT_9, und_9, zero1_9, zeroT_9, aggT_3, sizeT_3, bytesT_3, und_3, zero1_3, zeroT_3, aggT_4, sizeT_4, bytesT_4, und_4, zero1_4, zeroT_4, drawA, holes_succ, holes_zero, Array.size, List.length, ho, h0, hw, hl, h1, hm, hz, ha, z0, mapd_enc, callA_nil, hbx, bsb, bsa, callA_v_own, coK_arr, callOut_cd, g1, g2]
  rw [afterDraw_some _ _ _ _ (by kernel_rfl)]
  simp only [zS, wantedA, opA, eff, boxA, cells, ev, gt, pt, putO, updO, setO, okC, loadA, cutC, fieldAddrA, fieldA, indexAddrA, indexA, builtinA, callOpA, callV, target, ptrV, lenS, binA, intOp, strOp, unA, num, lk, over, allocA, pickA, buildA, fillA, convertA, extractA, ofComp, nilCheckA, makeFuncA, ptrs, ofValue, cellB, Nat.reduceAdd, Nat.reduceSub, Nat.reduceMul, Nat.reduceLT, Nat.reduceLeDiff, Nat.reduceGT, ↓reduceIte, Nat.reduceEqDiff, Nat.reduceBEq, reduceCtorEq, Int.reduceBEq, Int.reduceBNe, Int.reduceLT, Int.reduceLE, Int.reduceGT, Int.reduceGE, aggT_25, sizeT_25, bytesT_25, fieldT_25_0, fieldT_25_1, fieldT_25_2, fieldT_25_3, placesT_25, zeroT_25, aggT_23, sizeT_23, bytesT_23, und_23, elemT_23, zero1_23, zeroT_23, aggT_9, sizeT_9, bytesT_9, und_9, zero1_9, zeroT_9, aggT_3, sizeT_3, bytesT_3, und_3, zero1_3, zeroT_3, aggT_4, sizeT_4, bytesT_4, und_4, zero1_4, zeroT_4, ho]
  (refine Eq.trans ?_ rfl; kernel_rfl)
theorem fix30 (hx : ext 30 = none) (h28 : ext 28 = none) (h45 : ext 45 = none) (x e m a hy : Cd) (l : List ByteArray) (sh r : ByteArray) (ho : x.op = 11) (h0 : 0 ≤ e.n) (hw : wr (1 + e.n) = 1 + e.n) (hl : 1 + e.n < x.l.length) (h1 : 0 ≤ 1 + e.n) (hm : x.l[(1 + e.n).toNat]? = some m) (hz : (0 : Int) < e.l.length) (ha : e.l[(0 : Int).toNat]? = some a)
    (h46 : run Tryd.prog ext (.call 46 [sV x.s, sV semi] []) = some (.ret [.c (.d (listS false l))] [])) (hel : e.n < l.length) (hsh : l[e.n.toNat]? = some sh) (h47 : run Tryd.prog ext (.call 47 [sV sh, cdV x, cdV a] []) = some (.ret [cdV hy, sV r] [])) :
    run Tryd.prog ext (.call 30 [cdV x, cdV e] []) = some (.ret [cdV (app (app (app m bx) a) hy)] []) := by
  have z0 : (0 : Int) ≤ 0 := Int.le_refl _
  have hbx := box28 ext h28
  rw [cdV_box] at hbx
  have g1 := op45 ext h45 3 (.s 4 [encCd m, encCd bx])
  have g2 := op45 ext h45 3 (.s 4 [encCd (app m bx), encCd a])
  have g3 := op45 ext h45 3 (.s 4 [encCd (app (app m bx) a), encCd hy])
  rw [show cdV (app (app (app m bx) a) hy) = _ from cdV_lit2 _ _ _ _]
  simp only [iV] at g1 g2 g3
  rw [listS_of_lt h0 hel] at h46
  simp only [cdV, cdC, sV, semi, ho, lD_of_lt h1 hl] at h46 h47
  (rw [run_eq]; simp only [stepA, hx, Tryd.func30, Tryd.f30]; simp only [List.length_cons, List.length_nil, Nat.reduceAdd, Nat.reduceLeDiff, Nat.zero_le, ↓reduceIte, List.zipIdx_cons, List.zipIdx_nil, List.map_cons, List.map_nil])
  simp only [cdV, cdC, lD_of_lt h1 hl, lD_of_lt z0 hz]
  simp only [zS, wantedA, opA, eff, boxA, cells, ev, gt, pt, putO, updO, setO, okC, loadA, cutC, fieldAddrA, fieldA, indexAddrA, indexA, builtinA, callOpA, callV, target, ptrV, lenS, binA, intOp, strOp, unA, num, lk, over, allocA, pickA, buildA, fillA, convertA, extractA, ofComp, nilCheckA, makeFuncA, ptrs, ofValue, cellB, Nat.reduceAdd, Nat.reduceSub, Nat.reduceMul, Nat.reduceLT, Nat.reduceLeDiff, Nat.reduceGT, ↓reduceIte, Nat.reduceEqDiff, Nat.reduceBEq, reduceCtorEq, Int.reduceBEq, Int.reduceBNe, Int.reduceLT, Int.reduceLE, Int.reduceGT, Int.reduceGE, aggT_25, sizeT_25, bytesT_25, fieldT_25_0, fieldT_25_1, fieldT_25_2, fieldT_25_3, placesT_25, zeroT_25, aggT_23, sizeT_23, bytesT_23, und_23, elemT_23, zero1_23, zeroT_23, aggT_22, sizeT_22, bytesT_22, und_22, elemT_22, zero1_22, zeroT_22, aggT_9, sizeT_9, bytesT_9, und_9, zero1_9, zeroT_9, aggT_3, sizeT_3, bytesT_3, und_3, zero1_3, zeroT_3, aggT_4, sizeT_4, bytesT_4, und_4, zero1_4, zeroT_4, drawA, holes_succ, holes_zero, Array.size, List.length, ho, h0, hw, hl, h1, hm, hz, ha, z0, mapd_enc, callA_nil, hbx, bsb, bsa, callA_v_own, coK_arr, callOut_cd, g1, g2]
  rw [afterDraw_some _ _ _ _ (by kernel_rfl)]
  simp only [zS, wantedA, opA, eff, boxA, cells, ev, gt, pt, putO, updO, setO, okC, loadA, cutC, fieldAddrA, fieldA, indexAddrA, indexA, builtinA, callOpA, callV, target, ptrV, lenS, binA, intOp, strOp, unA, num, lk, over, allocA, pickA, buildA, fillA, convertA, extractA, ofComp, nilCheckA, makeFuncA, ptrs, ofValue, cellB, Nat.reduceAdd, Nat.reduceSub, Nat.reduceMul, Nat.reduceLT, Nat.reduceLeDiff, Nat.reduceGT, ↓reduceIte, Nat.reduceEqDiff, Nat.reduceBEq, reduceCtorEq, Int.reduceBEq, Int.reduceBNe, Int.reduceLT, Int.reduceLE, Int.reduceGT, Int.reduceGE, aggT_25, sizeT_25, bytesT_25, fieldT_25_0, fieldT_25_1, fieldT_25_2, fieldT_25_3, placesT_25, zeroT_25, aggT_23, sizeT_23, bytesT_23, und_23, elemT_23, zero1_23, zeroT_23, aggT_22, sizeT_22, bytesT_22, und_22, elemT_22, zero1_22, zeroT_22, aggT_9, sizeT_9, bytesT_9, und_9, zero1_9, zeroT_9, aggT_3, sizeT_3, bytesT_3, und_3, zero1_3, zeroT_3, aggT_4, sizeT_4, bytesT_4, und_4, zero1_4, zeroT_4, drawA, holes_succ, holes_zero, Array.size, List.length, ho, h46, h0, hel, hsh, hz, ha, z0, mapd_enc, h47, callOut_cs]
  rw [afterDraw_some _ _ _ _ (by kernel_rfl)]
  simp only [zS, wantedA, opA, eff, boxA, cells, ev, gt, pt, putO, updO, setO, okC, loadA, cutC, fieldAddrA, fieldA, indexAddrA, indexA, builtinA, callOpA, callV, target, ptrV, lenS, binA, intOp, strOp, unA, num, lk, over, allocA, pickA, buildA, fillA, convertA, extractA, ofComp, nilCheckA, makeFuncA, ptrs, ofValue, cellB, Nat.reduceAdd, Nat.reduceSub, Nat.reduceMul, Nat.reduceLT, Nat.reduceLeDiff, Nat.reduceGT, ↓reduceIte, Nat.reduceEqDiff, Nat.reduceBEq, reduceCtorEq, Int.reduceBEq, Int.reduceBNe, Int.reduceLT, Int.reduceLE, Int.reduceGT, Int.reduceGE, aggT_25, sizeT_25, bytesT_25, fieldT_25_0, fieldT_25_1, fieldT_25_2, fieldT_25_3, placesT_25, zeroT_25, aggT_23, sizeT_23, bytesT_23, und_23, elemT_23, zero1_23, zeroT_23, aggT_22, sizeT_22, bytesT_22, und_22, elemT_22, zero1_22, zeroT_22, aggT_9, sizeT_9, bytesT_9, und_9, zero1_9, zeroT_9, aggT_3, sizeT_3, bytesT_3, und_3, zero1_3, zeroT_3, aggT_4, sizeT_4, bytesT_4, und_4, zero1_4, zeroT_4, bsa, callA_v_own, coK_arr, callOut_cd, g3]
  (refine Eq.trans ?_ rfl; kernel_rfl)
theorem size_app (a b : Cd) : (app a b).size = 1 + a.size + b.size := by unfold app; rw [size_mk]; simp; omega
theorem WF.app {ext : Ext} {a b : Cd} (ha : WF ext a) (hb : WF ext b) : WF ext (app a b) := WF.app2 ha hb _
/-- What the helpers of chosen need. -/
structure Plain (ext : Ext) : Prop where
  h28 : ext 28 = none
  h44 : ext 44 = none
  h45 : ext 45 = none
  h46 : ext 46 = none
  h47 : ext 47 = none
theorem chosen30 (h30 : ext 30 = none) (hp : Plain ext) (x e : Cd) (hx : WF ext x) (he : WF ext e) (ho : x.op = 9 ∨ x.op = 11) (hc : e.op = 8) (hn : e.n < (x.l.length : Int) - 1) (hs : x.size ≤ 1048576) (hs2 : e.size ≤ 1048576) :
    ∃ out, run Tryd.prog ext (.call 30 [cdV x, cdV e] []) = some (.ret [cdV out] []) ∧ WF ext out ∧ out.size < 2 ^ 60 := by
  obtain ⟨h28, h44, h45, h46, h47⟩ := hp
  obtain ⟨c1, c2⟩ := he.ok.con hc
  have hlx := x.len_lt
  obtain ⟨a, ha⟩ : ∃ a, e.l = [a] := by
    cases hl : e.l with
    | nil => rw [hl] at c1; cases c1
    | cons a r => cases r with
      | nil => exact ⟨a, rfl⟩
      | cons b r => rw [hl] at c1; simp at c1
  have hamem : a ∈ e.l := by rw [ha]; simp
  have has := Cd.size_lt hamem
  have hwa := he.part hamem
  obtain ⟨k, hk⟩ := Int.eq_ofNat_of_zero_le c2
  have hkl : 1 + k < x.l.length := by omega
  have hm : x.l[(1 + e.n).toNat]? = some x.l[1 + k] := by
    rw [show (1 + e.n).toNat = 1 + k by omega]; simp [hkl]
  have hmem : x.l[1 + k] ∈ x.l := List.getElem_mem hkl
  have hms := Cd.size_lt hmem
  have hwm := hx.part hmem
  have hw : wr (1 + e.n) = 1 + e.n := wr_id (by omega) (by omega)
  have h0 : e.l[(0 : Int).toNat]? = some a := by rw [ha]; rfl
  rcases ho with ho | ho
  · exact ⟨_, case30 ext h30 h28 h45 x e _ a ho c2 hw (by omega) (by omega) hm (by omega) h0, (hwm.app WF.box).app hwa, by rw [size_app, size_app]; simp only [bx, size_mk, List.map_nil, List.sum_nil]; omega⟩
  · obtain ⟨f1, f2⟩ := hx.ok.fix ho
    rcases f2 with f2 | ⟨l, g1, g2, g3⟩
    · omega
    · have hkl2 : k < l.length := by omega
      obtain ⟨gs, r, gr⟩ := g3 l[k] (List.getElem_mem hkl2)
      have hstr := hx.ok.str
      obtain ⟨hy, k1, k2, k3⟩ := hyp47 ext h47 h45 h44 h28 gr x a hx hwa f1 (by omega) (by omega)
      refine ⟨_, fix30 ext h30 h28 h45 x e _ a hy l l[k] r ho c2 hw (by omega) (by omega) hm (by omega) h0 g1 (by omega) (by rw [show e.n.toNat = k by omega]; simp [hkl2]) k1, ((hwm.app WF.box).app hwa).app k2, ?_⟩
      have hb1 : hb (l[k].size - r.size) (x.size + a.size) ≤ 1048576 * (2097152 + 2 * 1048576) := by
        unfold hb
        exact Nat.mul_le_mul (by omega) (by omega)
      rw [size_app, size_app, size_app]
      simp only [bx, size_mk, List.map_nil, List.sum_nil]
      omega
theorem answer_nb {ids : List Nat} {slot : Nat} {vs vs' : List V} {objs objs' : List O} {v : V} {u : List (Nat × O)} (h1 : mapO (renV (back ids slot objs.length)) vs = some vs') (h2 : mapO (renO (back ids slot objs.length)) objs = some objs') (h3 : results1 vs' = some v) (h4 : ¬ objs.length < ids.length) (h5 : number ids slot objs' = u) :
    answer ids [] slot (.ret vs objs) = some ⟨.val v, u, ids⟩ := by
  simp only [answer, h1, h2, h3, if_neg h4, h5, kills, List.map_nil, ite_self, List.append_nil]
noncomputable def B24 : Code := (Tryd.f24.body.getD .skip)
theorem ok24 (hx : ext 24 = none) (nd cd : D) (F u r a u' r' : Int) (c y : Cd) (hr : run Tryd.prog ext (.call 15 [.c (.ptr 0 0), cdV c] [.box [.d nd, .d cd, .d (.v (.int .i64 F)), .d (.v (.int .i64 u)), .d (.v (.int .i64 (wr (r + a))))]]) = some (.ret [cdV y] [.box [.d nd, .d cd, .d (.v (.int .i64 F)), .d (.v (.int .i64 u')), .d (.v (.int .i64 r'))]])) :
    run Tryd.prog ext (.call 24 [.c (.ptr 0 0), cdV c, iV a] [.box [.d nd, .d cd, .d (.v (.int .i64 F)), .d (.v (.int .i64 u)), .d (.v (.int .i64 r))]]) = some (.ret [cdV y] [.box [.d nd, .d cd, .d (.v (.int .i64 F)), .d (.v (.int .i64 u')), .d (.v (.int .i64 (wr (r' - a))))]]) := by
  have e := callA_of (rec := run Tryd.prog ext) (look := lk [.box [.d nd, .d cd, .d (.v (.int .i64 F)), .d (.v (.int .i64 u)), .d (.v (.int .i64 (wr (r + a))))], .box (cdC c), .box [.d (.v (.int .i64 0)), .d (.v (.int .i64 0)), .d (.v (.string ⟨#[]⟩)), .d (.v (.slice none 0 0))]]) (slot := 3) (f := 15) (args := [.c (.ptr 0 0), cdV c]) (ids := [0]) (bor := []) (e := ⟨.val (cdV y), [(0, .box [.d nd, .d cd, .d (.v (.int .i64 F)), .d (.v (.int .i64 u')), .d (.v (.int .i64 r'))])], [0]⟩) (by kernel_rfl) hr (answer_nb (vs' := [cdV y]) (objs' := [.box [.d nd, .d cd, .d (.v (.int .i64 F)), .d (.v (.int .i64 u')), .d (.v (.int .i64 r'))]]) (by kernel_rfl) (by kernel_rfl) rfl (by simp) rfl)
  (rw [run_eq]; simp only [stepA, hx, Tryd.func24, Tryd.f24]; simp only [List.length_cons, List.length_nil, Nat.reduceAdd, Nat.reduceLeDiff, Nat.zero_le, ↓reduceIte, List.zipIdx_cons, List.zipIdx_nil, List.map_cons, List.map_nil])
  simp only [cdV, cdC, iV] at e ⊢
  simp only [zS, wantedA, opA, eff, boxA, cells, ev, gt, pt, putO, updO, setO, okC, loadA, cutC, fieldAddrA, fieldA, indexAddrA, indexA, builtinA, callOpA, callV, target, ptrV, lenS, binA, intOp, strOp, unA, num, lk, over, allocA, pickA, buildA, fillA, convertA, extractA, ofComp, nilCheckA, makeFuncA, ptrs, ofValue, cellB, Nat.reduceAdd, Nat.reduceSub, Nat.reduceMul, Nat.reduceLT, Nat.reduceLeDiff, Nat.reduceGT, ↓reduceIte, Nat.reduceEqDiff, Nat.reduceBEq, reduceCtorEq, Int.reduceBEq, Int.reduceBNe, Int.reduceLT, Int.reduceLE, Int.reduceGT, Int.reduceGE, aggT_25, sizeT_25, bytesT_25, fieldT_25_0, fieldT_25_1, fieldT_25_2, fieldT_25_3, placesT_25, zeroT_25, aggT_3, sizeT_3, bytesT_3, und_3, zero1_3, zeroT_3, aggT_4, sizeT_4, bytesT_4, und_4, zero1_4, zeroT_4, aggT_44, sizeT_44, bytesT_44, fieldT_44_0, fieldT_44_1, fieldT_44_2, fieldT_44_3, fieldT_44_4, placesT_44, zeroT_44, e]
  (refine Eq.trans ?_ rfl; kernel_rfl)
theorem pan24 (hx : ext 24 = none) (nd cd : D) (F u r a u' r' : Int) (c : Cd) (v : Value) (hr : run Tryd.prog ext (.call 15 [.c (.ptr 0 0), cdV c] [.box [.d nd, .d cd, .d (.v (.int .i64 F)), .d (.v (.int .i64 u)), .d (.v (.int .i64 (wr (r + a))))]]) = some (.pan v [.box [.d nd, .d cd, .d (.v (.int .i64 F)), .d (.v (.int .i64 u')), .d (.v (.int .i64 r'))]])) :
    run Tryd.prog ext (.call 24 [.c (.ptr 0 0), cdV c, iV a] [.box [.d nd, .d cd, .d (.v (.int .i64 F)), .d (.v (.int .i64 u)), .d (.v (.int .i64 r))]]) = some (.pan v [.box [.d nd, .d cd, .d (.v (.int .i64 F)), .d (.v (.int .i64 u')), .d (.v (.int .i64 r'))]]) := by
  have e := callA_of (rec := run Tryd.prog ext) (look := lk [.box [.d nd, .d cd, .d (.v (.int .i64 F)), .d (.v (.int .i64 u)), .d (.v (.int .i64 (wr (r + a))))], .box (cdC c), .box [.d (.v (.int .i64 0)), .d (.v (.int .i64 0)), .d (.v (.string ⟨#[]⟩)), .d (.v (.slice none 0 0))]]) (slot := 3) (f := 15) (args := [.c (.ptr 0 0), cdV c]) (ids := [0]) (bor := []) (e := ⟨.pan v, [(0, .box [.d nd, .d cd, .d (.v (.int .i64 F)), .d (.v (.int .i64 u')), .d (.v (.int .i64 r'))])], [0]⟩) (by kernel_rfl) hr (by kernel_rfl)
  (rw [run_eq]; simp only [stepA, hx, Tryd.func24, Tryd.f24]; simp only [List.length_cons, List.length_nil, Nat.reduceAdd, Nat.reduceLeDiff, Nat.zero_le, ↓reduceIte, List.zipIdx_cons, List.zipIdx_nil, List.map_cons, List.map_nil])
  simp only [cdV, cdC, iV] at e ⊢
  simp only [zS, wantedA, opA, eff, boxA, cells, ev, gt, pt, putO, updO, setO, okC, loadA, cutC, fieldAddrA, fieldA, indexAddrA, indexA, builtinA, callOpA, callV, target, ptrV, lenS, binA, intOp, strOp, unA, num, lk, over, allocA, pickA, buildA, fillA, convertA, extractA, ofComp, nilCheckA, makeFuncA, ptrs, ofValue, cellB, Nat.reduceAdd, Nat.reduceSub, Nat.reduceMul, Nat.reduceLT, Nat.reduceLeDiff, Nat.reduceGT, ↓reduceIte, Nat.reduceEqDiff, Nat.reduceBEq, reduceCtorEq, Int.reduceBEq, Int.reduceBNe, Int.reduceLT, Int.reduceLE, Int.reduceGT, Int.reduceGE, aggT_25, sizeT_25, bytesT_25, fieldT_25_0, fieldT_25_1, fieldT_25_2, fieldT_25_3, placesT_25, zeroT_25, aggT_3, sizeT_3, bytesT_3, und_3, zero1_3, zeroT_3, aggT_4, sizeT_4, bytesT_4, und_4, zero1_4, zeroT_4, aggT_44, sizeT_44, bytesT_44, fieldT_44_0, fieldT_44_1, fieldT_44_2, fieldT_44_3, fieldT_44_4, placesT_44, zeroT_44, e]
  (refine Eq.trans ?_ rfl; kernel_rfl)
end Go.Proofs.YtmjacokkgfophaaDoor.Am
end
section
/- Rules for calls that hand on one variable. -/
namespace Go.Proofs.YtmjacokkgfophaaDoor.Am
open Go
def cpK (rec : Rec) (look : Look) (o : Option O) (slot : Nat) (f : FuncId) (id : Nat) (vs : List V) : Option Eff :=
  match o with
  | some (.box cs) => if cs.all dataC = true then callOut [id] [] slot (rec (.call f (.c (.ptr 0 0) :: vs) [.box cs])) else callA rec look slot f (.c (.ptr id 0) :: vs)
  | _ => callA rec look slot f (.c (.ptr id 0) :: vs)
theorem refs_data : ∀ {cs : List C}, cs.all dataC = true → cs.flatMap refsC = [] := fun h => (argCs_data (look := fun _ => none) h).2.1
theorem prep_ptr {look : Look} {id : Nat} {cs : List C} {vs : List V} (hv : vs.all dataV = true) (hl : look id = some (.box cs)) (hc : cs.all dataC = true) :
    callPrep look (.c (.ptr id 0) :: vs) = some ([id], [], .c (.ptr 0 0) :: vs, [.box cs]) := by
  obtain ⟨h1, h2, h3⟩ := argVs_data (look := look) hv
  obtain ⟨_, k2, k3⟩ := argCs_data (look := look) hc
  have a1 : argVs look (.c (.ptr id 0) :: vs) = some (.c (.ptr id 0) :: vs, []) := by
    simp only [argVs, h1, argV, argC, List.append_nil]
  have a2 : (V.c (C.ptr id 0) :: vs).flatMap refsV = [id] := by rw [List.flatMap_cons, h2]; rfl
  have a3 : Am.reach look 200 [] [id] = [id] := by
    show (if ([] : List Nat).contains id = true then _ else Am.reach look 199 ([] ++ [id]) ([] ++ refsO (look id))) = [id]
    rw [hl]
    show Am.reach look 199 [id] (cs.flatMap refsC) = [id]
    rw [k2]; rfl
  have a4 : mapO (renV (pos [id])) (.c (.ptr id 0) :: vs) = some (.c (.ptr 0 0) :: vs) := by
    have e : renV (pos [id]) (.c (.ptr id 0)) = some (.c (.ptr 0 0)) := by simp [renV, renC, pos]
    simp only [mapO, e, h3]
  have a5 : mapO look [id] = some [.box cs] := by simp only [mapO, hl]
  have a6 : mapO (renO (pos [id])) [.box cs] = some [.box cs] := by simp only [mapO, renO, k3]
  simp only [callPrep, a1, a2, a3, a4, a5, a6]
  simp
theorem callA_ptr (rec : Rec) (look : Look) (slot : Nat) (f : FuncId) (id : Nat) (vs : List V) (hv : vs.all dataV = true) : callA rec look slot f (.c (.ptr id 0) :: vs) = cpK rec look (look id) slot f id vs := by
  unfold cpK
  cases hl : look id with
  | none => rfl
  | some o =>
    cases o with
    | box cs =>
      dsimp only
      by_cases hc : cs.all dataC = true
      · rw [if_pos hc]
        unfold callA
        rw [prep_ptr hv hl hc]
        rfl
      · rw [if_neg hc]
    | _ => rfl
theorem cpK_box (rec : Rec) (look : Look) (cs : List C) (slot : Nat) (f : FuncId) (id : Nat) (vs : List V) (hc : cs.all dataC = true) : cpK rec look (some (.box cs)) slot f id vs = callOut [id] [] slot (rec (.call f (.c (.ptr 0 0) :: vs) [.box cs])) := by
  unfold cpK; dsimp only; rw [if_pos hc]
theorem callOut_pt (id slot : Nat) (v : V) (cs : List C) (hv : dataV v = true) (hc : cs.all dataC = true) : callOut [id] [] slot (some (.ret [v] [.box cs])) = some ⟨.val v, [(id, .box cs)], [id]⟩ := by
  obtain ⟨_, _, h3⟩ := argV_data (look := fun _ => none) hv
  obtain ⟨_, _, k3⟩ := argCs_data (look := fun _ => none) hc
  have a1 : ∀ r, mapO (renV r) [v] = some [v] := fun r => by simp only [mapO, h3]
  have a2 : ∀ r, mapO (renO r) [.box cs] = some [.box cs] := fun r => by simp only [mapO, renO, k3]
  simp only [callOut, answer, a1, a2, results1, kills, List.map_nil, ite_self, List.append_nil]
  rfl
theorem callOut_pp (id slot : Nat) (x : Value) (cs : List C) (hc : cs.all dataC = true) : callOut [id] [] slot (some (.pan x [.box cs])) = some ⟨.pan x, [(id, .box cs)], [id]⟩ := by
  obtain ⟨_, _, k3⟩ := argCs_data (look := fun _ => none) hc
  have a2 : ∀ r, mapO (renO r) [.box cs] = some [.box cs] := fun r => by simp only [mapO, renO, k3]
  simp only [callOut, answer, a2, kills, List.map_nil, List.append_nil]
  rfl
end Go.Proofs.YtmjacokkgfophaaDoor.Am
end
section
/- head: a code's head, step by step. -/
namespace Go.Proofs.YtmjacokkgfophaaDoor.Am
open Go
variable (ext : Ext)
set_option maxHeartbeats 8000000
set_option maxRecDepth 10000
noncomputable def B15 : Code := (Tryd.f15.body.getD .skip)
noncomputable def L15 : Code := sub B15 [1, 0, 0]
noncomputable def K15 : List It := [.inBlock 0]
def E15 : Env := [(0, .c (.ptr 0 0)), (3, .c (.ptr 1 0)), (4, .c (.ptr 2 0))]
def M15 (nd cd : D) (F u r : Int) : O := .box [.d nd, .d cd, .d (.v (.int .i64 F)), .d (.v (.int .i64 u)), .d (.v (.int .i64 r))]
noncomputable def H15 (nd cd : D) (F u r : Int) (c : Cd) : Option Out :=
  run Tryd.prog ext (.k ⟨132, 1, [.cell 4 25]⟩ (.code L15 :: .inLoop L15 :: K15) E15 [M15 nd cd F u r, .box (cdC c), .box (zrow.map .d)])
variable (nd cd : D) (F u r : Int)
theorem enter15 (hx : ext 15 = none) (c : Cd) (out : Option Out) (h : H15 ext nd cd F u r c = out) : run Tryd.prog ext (.call 15 [.c (.ptr 0 0), cdV c] (OM nd cd F u r)) = out := by
  unfold H15 at h
  (rw [run_eq]; simp only [stepA, hx, Tryd.func15, Tryd.f15]; simp only [List.length_cons, List.length_nil, Nat.reduceAdd, Nat.reduceLeDiff, Nat.zero_le, ↓reduceIte, List.zipIdx_cons, List.zipIdx_nil, List.map_cons, List.map_nil])
  simp only [cdV, cdC, OM]
  simp only [zS, wantedA, opA, eff, boxA, cells, ev, gt, pt, putO, updO, setO, okC, loadA, cutC, fieldAddrA, fieldA, indexAddrA, indexA, builtinA, callOpA, callV, target, ptrV, lenS, binA, intOp, strOp, unA, num, lk, over, allocA, pickA, buildA, fillA, convertA, extractA, ofComp, nilCheckA, makeFuncA, ptrs, ofValue, cellB, Nat.reduceAdd, Nat.reduceSub, Nat.reduceMul, Nat.reduceLT, Nat.reduceLeDiff, Nat.reduceGT, ↓reduceIte, Nat.reduceEqDiff, Nat.reduceBEq, reduceCtorEq, Int.reduceBEq, Int.reduceBNe, Int.reduceLT, Int.reduceLE, Int.reduceGT, Int.reduceGE, aggT_25, sizeT_25, bytesT_25, fieldT_25_0, fieldT_25_1, fieldT_25_2, fieldT_25_3, placesT_25, zeroT_25, aggT_3, sizeT_3, bytesT_3, und_3, zero1_3, zeroT_3, aggT_4, sizeT_4, bytesT_4, und_4, zero1_4, zeroT_4]
  refine (r_inLoop_some ?_).trans h
  kernel_rfl
theorem val15 (c : Cd) (h : c.op = 2 ∨ c.op = 4 ∨ c.op = 7 ∨ c.op = 8) : H15 ext nd cd F u r c = some (.ret [cdV c] (OM nd cd F u r)) := by
  unfold H15
  rw [show (It.code L15) = It.code (sub B15 [1, 0, 0]) from rfl]
  simp only [E15, M15, cdV, cdC, iV, zrow, List.map_cons, List.map_nil]
  simp only [B15, K15, sub, Option.getD_some, Tryd.f15, ↓reduceIte, Nat.one_ne_zero]
  rcases h with h | h | h | h
  · simp only [zS, wantedA, opA, eff, boxA, cells, ev, gt, pt, putO, updO, setO, okC, loadA, cutC, fieldAddrA, fieldA, indexAddrA, indexA, builtinA, callOpA, callV, target, ptrV, lenS, binA, intOp, strOp, unA, num, lk, over, allocA, pickA, buildA, fillA, convertA, extractA, ofComp, nilCheckA, makeFuncA, ptrs, ofValue, cellB, Nat.reduceAdd, Nat.reduceSub, Nat.reduceMul, Nat.reduceLT, Nat.reduceLeDiff, Nat.reduceGT, ↓reduceIte, Nat.reduceEqDiff, Nat.reduceBEq, reduceCtorEq, Int.reduceBEq, Int.reduceBNe, Int.reduceLT, Int.reduceLE, Int.reduceGT, Int.reduceGE, aggT_25, sizeT_25, bytesT_25, fieldT_25_0, fieldT_25_1, fieldT_25_2, fieldT_25_3, placesT_25, zeroT_25, aggT_23, sizeT_23, bytesT_23, und_23, elemT_23, zero1_23, zeroT_23, aggT_3, sizeT_3, bytesT_3, und_3, zero1_3, zeroT_3, aggT_4, sizeT_4, bytesT_4, und_4, zero1_4, zeroT_4, h]
    (refine Eq.trans ?_ rfl; kernel_rfl)
  · simp only [zS, wantedA, opA, eff, boxA, cells, ev, gt, pt, putO, updO, setO, okC, loadA, cutC, fieldAddrA, fieldA, indexAddrA, indexA, builtinA, callOpA, callV, target, ptrV, lenS, binA, intOp, strOp, unA, num, lk, over, allocA, pickA, buildA, fillA, convertA, extractA, ofComp, nilCheckA, makeFuncA, ptrs, ofValue, cellB, Nat.reduceAdd, Nat.reduceSub, Nat.reduceMul, Nat.reduceLT, Nat.reduceLeDiff, Nat.reduceGT, ↓reduceIte, Nat.reduceEqDiff, Nat.reduceBEq, reduceCtorEq, Int.reduceBEq, Int.reduceBNe, Int.reduceLT, Int.reduceLE, Int.reduceGT, Int.reduceGE, aggT_25, sizeT_25, bytesT_25, fieldT_25_0, fieldT_25_1, fieldT_25_2, fieldT_25_3, placesT_25, zeroT_25, aggT_23, sizeT_23, bytesT_23, und_23, elemT_23, zero1_23, zeroT_23, aggT_3, sizeT_3, bytesT_3, und_3, zero1_3, zeroT_3, aggT_4, sizeT_4, bytesT_4, und_4, zero1_4, zeroT_4, h]
    (refine Eq.trans ?_ rfl; kernel_rfl)
  · simp only [zS, wantedA, opA, eff, boxA, cells, ev, gt, pt, putO, updO, setO, okC, loadA, cutC, fieldAddrA, fieldA, indexAddrA, indexA, builtinA, callOpA, callV, target, ptrV, lenS, binA, intOp, strOp, unA, num, lk, over, allocA, pickA, buildA, fillA, convertA, extractA, ofComp, nilCheckA, makeFuncA, ptrs, ofValue, cellB, Nat.reduceAdd, Nat.reduceSub, Nat.reduceMul, Nat.reduceLT, Nat.reduceLeDiff, Nat.reduceGT, ↓reduceIte, Nat.reduceEqDiff, Nat.reduceBEq, reduceCtorEq, Int.reduceBEq, Int.reduceBNe, Int.reduceLT, Int.reduceLE, Int.reduceGT, Int.reduceGE, aggT_25, sizeT_25, bytesT_25, fieldT_25_0, fieldT_25_1, fieldT_25_2, fieldT_25_3, placesT_25, zeroT_25, aggT_23, sizeT_23, bytesT_23, und_23, elemT_23, zero1_23, zeroT_23, aggT_3, sizeT_3, bytesT_3, und_3, zero1_3, zeroT_3, aggT_4, sizeT_4, bytesT_4, und_4, zero1_4, zeroT_4, h]
    (refine Eq.trans ?_ rfl; kernel_rfl)
  · simp only [zS, wantedA, opA, eff, boxA, cells, ev, gt, pt, putO, updO, setO, okC, loadA, cutC, fieldAddrA, fieldA, indexAddrA, indexA, builtinA, callOpA, callV, target, ptrV, lenS, binA, intOp, strOp, unA, num, lk, over, allocA, pickA, buildA, fillA, convertA, extractA, ofComp, nilCheckA, makeFuncA, ptrs, ofValue, cellB, Nat.reduceAdd, Nat.reduceSub, Nat.reduceMul, Nat.reduceLT, Nat.reduceLeDiff, Nat.reduceGT, ↓reduceIte, Nat.reduceEqDiff, Nat.reduceBEq, reduceCtorEq, Int.reduceBEq, Int.reduceBNe, Int.reduceLT, Int.reduceLE, Int.reduceGT, Int.reduceGE, aggT_25, sizeT_25, bytesT_25, fieldT_25_0, fieldT_25_1, fieldT_25_2, fieldT_25_3, placesT_25, zeroT_25, aggT_23, sizeT_23, bytesT_23, und_23, elemT_23, zero1_23, zeroT_23, aggT_3, sizeT_3, bytesT_3, und_3, zero1_3, zeroT_3, aggT_4, sizeT_4, bytesT_4, und_4, zero1_4, zeroT_4, h]
    (refine Eq.trans ?_ rfl; kernel_rfl)
theorem bad15 (c : Cd) (h2 : ¬ c.op = 2) (h3 : ¬ c.op = 3) (h4 : ¬ c.op = 4) (h5 : ¬ c.op = 5) (h6 : ¬ c.op = 6) (h7 : ¬ c.op = 7) (h8 : ¬ c.op = 8) (h9 : ¬ c.op = 9) (h10 : ¬ c.op = 10) (h11 : ¬ c.op = 11) : H15 ext nd cd F u r c = some (.pan (failedV 211) (OM nd cd F u r)) := by
  unfold H15
  rw [show (It.code L15) = It.code (sub B15 [1, 0, 0]) from rfl]
  simp only [E15, M15, cdV, cdC, iV, zrow, List.map_cons, List.map_nil]
  simp only [B15, K15, sub, Option.getD_some, Tryd.f15, ↓reduceIte, Nat.one_ne_zero]
  simp only [zS, wantedA, opA, eff, boxA, cells, ev, gt, pt, putO, updO, setO, okC, loadA, cutC, fieldAddrA, fieldA, indexAddrA, indexA, builtinA, callOpA, callV, target, ptrV, lenS, binA, intOp, strOp, unA, num, lk, over, allocA, pickA, buildA, fillA, convertA, extractA, ofComp, nilCheckA, makeFuncA, ptrs, ofValue, cellB, Nat.reduceAdd, Nat.reduceSub, Nat.reduceMul, Nat.reduceLT, Nat.reduceLeDiff, Nat.reduceGT, ↓reduceIte, Nat.reduceEqDiff, Nat.reduceBEq, reduceCtorEq, Int.reduceBEq, Int.reduceBNe, Int.reduceLT, Int.reduceLE, Int.reduceGT, Int.reduceGE, aggT_25, sizeT_25, bytesT_25, fieldT_25_0, fieldT_25_1, fieldT_25_2, fieldT_25_3, placesT_25, zeroT_25, aggT_23, sizeT_23, bytesT_23, und_23, elemT_23, zero1_23, zeroT_23, aggT_3, sizeT_3, bytesT_3, und_3, zero1_3, zeroT_3, aggT_4, sizeT_4, bytesT_4, und_4, zero1_4, zeroT_4, aggT_53, sizeT_53, bytesT_53, fieldT_53_0, placesT_53, zeroT_53, h2, h3, h4, h5, h6, h7, h8, h9, h10, h11, mkI53, panicA_f]
  (refine Eq.trans ?_ rfl; kernel_rfl)
theorem appLam15 (u1 r1 u2 r2 k : Int) (c a b f g t : Cd) (out : Option Out) (ho : c.op = 3) (hl0 : (0 : Int) < c.l.length) (hl1 : (1 : Int) < c.l.length) (ha : c.l[(0 : Int).toNat]? = some a) (hb : c.l[(1 : Int).toNat]? = some b)
    (h25 : run Tryd.prog ext (.call 25 [cdV c, iV 0] []) = some (.ret [iV k] [])) (h24 : run Tryd.prog ext (.call 24 [.c (.ptr 0 0), cdV a, iV k] [M15 nd cd F u r]) = some (.ret [cdV f] [M15 nd cd F u1 r1]))
    (hf : f.op = 2) (hfl : (0 : Int) < f.l.length) (hg : f.l[(0 : Int).toNat]? = some g) (h27 : run Tryd.prog ext (.call 27 [cdV g, cdV b, iV 0] []) = some (.ret [cdV t] [])) (h26 : run Tryd.prog ext (.call 26 [.c (.ptr 0 0), cdV t] [M15 nd cd F u1 r1]) = some (.ret [cdV t] [M15 nd cd F u2 r2]))
    (h : H15 ext nd cd F u2 r2 t = out) : H15 ext nd cd F u r c = out := by
  unfold H15 at h ⊢
  rw [show (It.code L15) = It.code (sub B15 [1, 0, 0]) from rfl]
  have z0 : (0 : Int) ≤ 0 := Int.le_refl _
  have z1 : (0 : Int) ≤ 1 := by decide
  simp only [M15, cdV, cdC, iV, lD_of_lt z0 hl0, lD_of_lt z0 hfl, ho, hf] at h25 h24 h27 h26
  simp only [E15, M15, cdV, cdC, iV, zrow, List.map_cons, List.map_nil, lD_of_lt z0 hl0]
  simp only [B15, K15, sub, Option.getD_some, Tryd.f15, ↓reduceIte, Nat.one_ne_zero]
  simp only [zS, wantedA, opA, eff, boxA, cells, ev, gt, pt, putO, updO, setO, okC, loadA, cutC, fieldAddrA, fieldA, indexAddrA, indexA, builtinA, callOpA, callV, target, ptrV, lenS, binA, intOp, strOp, unA, num, lk, over, allocA, pickA, buildA, fillA, convertA, extractA, ofComp, nilCheckA, makeFuncA, ptrs, ofValue, cellB, Nat.reduceAdd, Nat.reduceSub, Nat.reduceMul, Nat.reduceLT, Nat.reduceLeDiff, Nat.reduceGT, ↓reduceIte, Nat.reduceEqDiff, Nat.reduceBEq, reduceCtorEq, Int.reduceBEq, Int.reduceBNe, Int.reduceLT, Int.reduceLE, Int.reduceGT, Int.reduceGE, aggT_25, sizeT_25, bytesT_25, fieldT_25_0, fieldT_25_1, fieldT_25_2, fieldT_25_3, placesT_25, zeroT_25, aggT_23, sizeT_23, bytesT_23, und_23, elemT_23, zero1_23, zeroT_23, aggT_3, sizeT_3, bytesT_3, und_3, zero1_3, zeroT_3, aggT_4, sizeT_4, bytesT_4, und_4, zero1_4, zeroT_4, drawA, holes_succ, holes_zero, Array.size, List.length, ho, hl0, hl1, ha, hb, z0, z1, mapd_enc, h25, callA_ptr, cpK_box, h24, callOut_pt]
  rw [afterDraw_some _ _ _ _ (by kernel_rfl)]
  simp only [zS, wantedA, opA, eff, boxA, cells, ev, gt, pt, putO, updO, setO, okC, loadA, cutC, fieldAddrA, fieldA, indexAddrA, indexA, builtinA, callOpA, callV, target, ptrV, lenS, binA, intOp, strOp, unA, num, lk, over, allocA, pickA, buildA, fillA, convertA, extractA, ofComp, nilCheckA, makeFuncA, ptrs, ofValue, cellB, Nat.reduceAdd, Nat.reduceSub, Nat.reduceMul, Nat.reduceLT, Nat.reduceLeDiff, Nat.reduceGT, ↓reduceIte, Nat.reduceEqDiff, Nat.reduceBEq, reduceCtorEq, Int.reduceBEq, Int.reduceBNe, Int.reduceLT, Int.reduceLE, Int.reduceGT, Int.reduceGE, aggT_25, sizeT_25, bytesT_25, fieldT_25_0, fieldT_25_1, fieldT_25_2, fieldT_25_3, placesT_25, zeroT_25, aggT_23, sizeT_23, bytesT_23, und_23, elemT_23, zero1_23, zeroT_23, aggT_3, sizeT_3, bytesT_3, und_3, zero1_3, zeroT_3, aggT_4, sizeT_4, bytesT_4, und_4, zero1_4, zeroT_4, drawA, holes_succ, holes_zero, Array.size, List.length, ho, hf, hl0, hl1, ha, hb, hfl, hg, z0, z1, mapd_enc, h27, callA_ptr, cpK_box, h26, callOut_pt]
  rw [afterDraw_some _ _ _ _ (by kernel_rfl)]
  simp only [zS, wantedA, opA, eff, boxA, cells, ev, gt, pt, putO, updO, setO, okC, loadA, cutC, fieldAddrA, fieldA, indexAddrA, indexA, builtinA, callOpA, callV, target, ptrV, lenS, binA, intOp, strOp, unA, num, lk, over, allocA, pickA, buildA, fillA, convertA, extractA, ofComp, nilCheckA, makeFuncA, ptrs, ofValue, cellB, Nat.reduceAdd, Nat.reduceSub, Nat.reduceMul, Nat.reduceLT, Nat.reduceLeDiff, Nat.reduceGT, ↓reduceIte, Nat.reduceEqDiff, Nat.reduceBEq, reduceCtorEq, Int.reduceBEq, Int.reduceBNe, Int.reduceLT, Int.reduceLE, Int.reduceGT, Int.reduceGE, aggT_25, sizeT_25, bytesT_25, fieldT_25_0, fieldT_25_1, fieldT_25_2, fieldT_25_3, placesT_25, zeroT_25, aggT_23, sizeT_23, bytesT_23, und_23, elemT_23, zero1_23, zeroT_23, aggT_3, sizeT_3, bytesT_3, und_3, zero1_3, zeroT_3, aggT_4, sizeT_4, bytesT_4, und_4, zero1_4, zeroT_4]
  refine (r_inLoop_some ?_).trans h
  kernel_rfl
end Go.Proofs.YtmjacokkgfophaaDoor.Am
end
