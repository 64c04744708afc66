/- Part 8 of the proof of the card of TableFamilies, second form: no statement of its own; no conditions. -/
import Derived.Test.YteenjodhmppgjaaGreatDoorPa7
set_option linter.unusedSimpArgs false
set_option linter.unusedVariables false
set_option linter.defProp false
set_option linter.unusedSectionVars false
section
/- What stands in for the two functions that run does not step through. -/
namespace Go.Proofs.YteenjodhmppgjaaGreatDoor.Am
open Go
def E0 : Ext := fun _ => none
theorem bits0 : ∀ n : Nat, n ≤ 8 → ∃ m, run Tryz.prog E0 (.call 237 [.c (.d (.v (.int .u64 (IntKind.u64.wrap n))))] []) = some (.ret [iV m] [])
  | 0, _ => ⟨0, (run_iff _ _ _ _).2 ⟨60, by kernel_rfl⟩⟩
  | 1, _ => ⟨1, (run_iff _ _ _ _).2 ⟨60, by kernel_rfl⟩⟩
  | 2, _ => ⟨2, (run_iff _ _ _ _).2 ⟨60, by kernel_rfl⟩⟩
  | 3, _ => ⟨2, (run_iff _ _ _ _).2 ⟨60, by kernel_rfl⟩⟩
  | 4, _ => ⟨3, (run_iff _ _ _ _).2 ⟨60, by kernel_rfl⟩⟩
  | 5, _ => ⟨3, (run_iff _ _ _ _).2 ⟨60, by kernel_rfl⟩⟩
  | 6, _ => ⟨3, (run_iff _ _ _ _).2 ⟨60, by kernel_rfl⟩⟩
  | 7, _ => ⟨3, (run_iff _ _ _ _).2 ⟨60, by kernel_rfl⟩⟩
  | 8, _ => ⟨4, (run_iff _ _ _ _).2 ⟨60, by kernel_rfl⟩⟩
  | n + 9, h => by omega
theorem sortN (x : LV) (l : List LV) (hl : l.length < 8) : run Tryz.prog E0 (.call 121 [dV (.s 2 ((x :: l).map lvD))] []) = some (.ret [.c (.own 0)] (O254 (sortL (x :: l)))) := by
  obtain ⟨m, hm⟩ := bits0 (x :: l).length (by simp; omega)
  exact sorted121 E0 rfl rfl rfl rfl rfl rfl rfl rfl x l (by omega) m hm
theorem sort0 (c : Nat) : run Tryz.prog E0 (.call 121 [dV (.v (.slice none 0 c))] []) = some (.ret [dV (.v (.slice none 0 0))] []) :=
  (run_iff _ _ _ _).2 ⟨400, by kernel_rfl⟩
theorem sort1 (a : Addr) (c : Nat) : run Tryz.prog E0 (.call 121 [dV (.v (.slice (some a) 0 c))] []) = some (.ret [.c (.own 0)] [.arr 2 []]) :=
  (run_iff _ _ _ _).2 ⟨400, by kernel_rfl⟩
end Go.Proofs.YteenjodhmppgjaaGreatDoor.Am
end
section
/- What stands in for the two functions that run does not step through, second part. -/
namespace Go.Proofs.YteenjodhmppgjaaGreatDoor.Am
open Go
theorem awake0 : run Tryz.prog E0 (.call 14 [] []) = some (.ret [bV true] []) := (run_iff _ _ _ _).2 ⟨20000, by kernel_rfl⟩
theorem bodied121 : Bodied Tryz.prog 121 := ⟨Tryz.f121, Tryz.func121, by kernel_rfl⟩
theorem bodied14 : Bodied Tryz.prog 14 := ⟨Tryz.f14, Tryz.func14, by kernel_rfl⟩
theorem sound0 {f : FuncId} {args : List V} {objs : List O} {out : Out} (h : run Tryz.prog E0 (.call f args objs) = some out) (hB : Bodied Tryz.prog f) : CallOK Tryz.prog f args objs out :=
  run_sound named (fun f g args objs out h1 _ => by cases h1) mixes h hB
/-- A function that answers with nothing of its own. -/
theorem outOK_nil {w w' : World} {F : Nat → Prop} {β β' : Nat → Nat} {objs' : List O} {v : Value} {y : V} {F' : Nat → Prop} (hf : Sim w' F β' (lk objs')) (hst : St (· < ([] : List O).length) w β (lk []) w' β' (lk objs'))
    (hy : ∀ β'' look, RVs w' F β'' look v y) : OutOK w F β [] (.ret [y] []) (.returned v) w' := by
  refine ⟨β', v, rfl, .inl ⟨y, rfl, hy _ _⟩, ⟨hf.flt, fun id o h => (by cases h), fun id id' o o' h => (by cases h)⟩, ?_⟩
  exact ⟨hst.os, hst.tape, hst.output, hst.size, hst.block, fun b h => (by obtain ⟨id, o, h1, _⟩ := h; cases h1), fun id s h => absurd h (Nat.not_lt_zero id)⟩
theorem repE {w : World} {N : Nat → Prop} {v : Value} (h : RepD w N v (.s 2 [])) : ∃ a c, v = .slice a 0 c := by
  cases h with
  | e a c k => exact ⟨a, c, rfl⟩
  | s c h1 h2 h3 h4 h5 => exact ⟨_, _, rfl⟩
theorem ok121e : CallOK Tryz.prog 121 [dV (.s 2 [])] [] (.ret [dV (.s 2 [])] []) := by
  intro w F β vals hsim hall
  cases hall with
  | cons h t =>
    cases t
    obtain ⟨a, c, rfl⟩ := repE h
    cases a with
    | none =>
      refine (sound0 (sort0 c) bodied121 w F β _ hsim (.cons (.v rfl) .nil)).mono ?_
      rintro e w' ⟨β', v, rfl, hres, hf, hst⟩
      refine outOK_nil (F' := F) hf hst fun β'' look => ?_
      rcases hres with ⟨y, hy, hv⟩ | ⟨hne, _⟩
      · cases hy
        have hv' : RepD w' _ v (.v (.slice none 0 0)) := hv
        cases hv'
        exact .e none 0 2
      · exact absurd rfl hne
    | some a =>
      refine (sound0 (sort1 a c) bodied121 w F β _ hsim (.cons (.v rfl) .nil)).mono ?_
      rintro e w' ⟨β', v, rfl, hres, hf, hst⟩
      refine outOK_nil (F' := F) hf hst fun β'' look => ?_
      rcases hres with ⟨y, hy, hv⟩ | ⟨hne, _⟩
      · cases hy
        have hv' : RC w' (Nn w' F β' (lk [.arr 2 []])) β' (shL (lk [.arr 2 []])) v (.own 0) := hv
        rcases hv' with ⟨k, n, cap, h1, rfl, _⟩ | ⟨h1, _⟩
        · have : some (Sh.arr 2 0) = some (.arr k n) := h1
          cases this
          exact .e _ _ 2
        · have : some (Sh.arr 2 0) = some .gone := h1
          cases this
      · exact absurd rfl hne
end Go.Proofs.YteenjodhmppgjaaGreatDoor.Am
end
section
/- What run answers with, for the law. -/
namespace Go.Proofs.YteenjodhmppgjaaGreatDoor.Am
open Go
theorem lvD_inj {x y : LV} (h : lvD x = lvD y) : x = y := by
  cases x; cases y
  simp only [lvD, List.cons.injEq, D.v.injEq, Value.int.injEq, true_and, and_true] at h
  simp [h.1, h.2]
theorem map_lvD_inj : ∀ {l m : List LV}, l.map lvD = m.map lvD → l = m
  | [], [], _ => rfl
  | [], _ :: _, h => by cases h
  | _ :: _, [], h => by cases h
  | x :: l, y :: m, h => by
    simp only [List.map_cons, List.cons.injEq] at h
    rw [lvD_inj h.1, map_lvD_inj h.2]
theorem listD_inj {z z' : Bool} {l m : List LV} (h : listD z 2 (l.map lvD) = listD z' 2 (m.map lvD)) : l = m := by
  unfold listD at h
  by_cases h1 : z = true ∧ l.map lvD = []
  · by_cases h2 : z' = true ∧ m.map lvD = []
    · exact map_lvD_inj (h1.2.trans h2.2.symm)
    · rw [if_pos h1, if_neg h2] at h; cases h
  · by_cases h2 : z' = true ∧ m.map lvD = []
    · rw [if_neg h1, if_pos h2] at h; cases h
    · rw [if_neg h1, if_neg h2] at h
      injection h with _ h
      exact map_lvD_inj h
def R121 (args : List V) (objs : List O) (out : Out) : Prop := ∃ (z : Bool) (l : List LV), l.length ≤ 8 ∧ args = [dV (listD z 2 (l.map lvD))] ∧ objs = [] ∧ out = sortOut l
theorem R121_det {args : List V} {objs : List O} {o1 o2 : Out} (h1 : R121 args objs o1) (h2 : R121 args objs o2) : o1 = o2 := by
  obtain ⟨z, l, _, a, _, rfl⟩ := h1
  obtain ⟨z', l', _, b, _, rfl⟩ := h2
  have : dV (listD z 2 (l.map lvD)) = dV (listD z' 2 (l'.map lvD)) := by
    have := a.symm.trans b
    injection this
  unfold dV at this
  injection this with this
  injection this with this
  rw [listD_inj this]
open Classical in
noncomputable def g121 (args : List V) (objs : List O) : Option Out := if h : ∃ out, R121 args objs out then some h.choose else none
theorem g121_of {args : List V} {objs : List O} {out : Out} (h : R121 args objs out) : g121 args objs = some out := by
  unfold g121
  rw [dif_pos ⟨out, h⟩]
  exact congrArg some (R121_det (Exists.choose_spec (⟨out, h⟩ : ∃ out, R121 args objs out)) h)
theorem R121_of {args : List V} {objs : List O} {out : Out} (h : g121 args objs = some out) : R121 args objs out := by
  unfold g121 at h
  split at h
  · rename_i h'; cases h; exact h'.choose_spec
  · cases h
theorem nil121 : CallOK Tryz.prog 121 [dV (.v (.slice none 0 0))] [] (.ret [dV (.s 2 [])] []) := by
  intro w F β vals hsim hall
  cases hall with
  | cons h t =>
    cases t
    have h' : RepD w (Nn w F β (lk [])) _ (.v (.slice none 0 0)) := h
    cases h'
    exact ok121e w F β _ hsim (.cons (.e none 0 2) .nil)
theorem R121_ok {args : List V} {objs : List O} {out : Out} (h : R121 args objs out) : CallOK Tryz.prog 121 args objs out := by
  obtain ⟨z, l, hl, rfl, rfl, rfl⟩ := h
  cases l with
  | nil =>
    cases z with
    | true => exact nil121
    | false => exact ok121e
  | cons x l =>
    have e : listD z 2 ((x :: l).map lvD) = .s 2 ((x :: l).map lvD) := listD_ne (by simp)
    rw [e]
    exact sound0 (sortN x l (by simp at hl; omega)) bodied121
def g14 (args : List V) (objs : List O) : Option Out := match args, objs with
  | [], [] => some (.ret [bV true] [])
  | _, _ => none
noncomputable def E1 : Ext := fun f => if f = 121 then some g121 else if f = 14 then some g14 else none
theorem ex1 (n : FuncId) (h1 : n ≠ 14) (h2 : n ≠ 121) : E1 n = none := by unfold E1; rw [if_neg h2, if_neg h1]
end Go.Proofs.YteenjodhmppgjaaGreatDoor.Am
end
section
/- What stands in for slices.Clone of the parts of a level. -/
namespace Go.Proofs.YteenjodhmppgjaaGreatDoor.Am
open Go
theorem bodied240 : Bodied Tryz.prog 240 := ⟨Tryz.f240, Tryz.func240, by kernel_rfl⟩
theorem clo0 (c : Nat) : run Tryz.prog E0 (.call 240 [dV (.v (.slice none 0 c))] []) = some (.ret [dV (.v (.slice none 0 0))] []) := (run_iff _ _ _ _).2 ⟨100, by kernel_rfl⟩
theorem clo1 (a : Addr) (c : Nat) : run Tryz.prog E0 (.call 240 [dV (.v (.slice (some a) 0 c))] []) = some (.ret [dV (.s 2 [])] []) := (run_iff _ _ _ _).2 ⟨100, by kernel_rfl⟩
theorem ok240e : CallOK Tryz.prog 240 [dV (.s 2 [])] [] (.ret [dV (.s 2 [])] []) := by
  intro w F β vals hsim hall
  cases hall with
  | cons h t =>
    cases t
    obtain ⟨a, c, rfl⟩ := repE h
    cases a with
    | none =>
      refine (sound0 (clo0 c) bodied240 w F β _ hsim (.cons (.v rfl) .nil)).mono ?_
      rintro e w' ⟨β', v, rfl, hres, hf, hst⟩
      refine outOK_nil (F' := F) hf hst fun β'' look => ?_
      rcases hres with ⟨y, hy, hv⟩ | ⟨hne, _⟩
      · cases hy
        have hv' : RepD w' (Nn w' F β' (lk [])) v (.v (.slice none 0 0)) := hv
        cases hv'
        exact .e none 0 2
      · exact absurd rfl hne
    | some a => exact sound0 (clo1 a c) bodied240 w F β _ hsim (.cons (.v rfl) .nil)
def R240 (args : List V) (objs : List O) (out : Out) : Prop := ∃ (z : Bool) (l : List LV), l.length < 2 ^ 29 ∧ args = [dV (listD z 2 (l.map lvD))] ∧ objs = [] ∧ out = .ret [dV (listD z 2 (l.map lvD))] []
theorem R240_det {args : List V} {objs : List O} {o1 o2 : Out} (h1 : R240 args objs o1) (h2 : R240 args objs o2) : o1 = o2 := by
  obtain ⟨z, l, _, a, _, rfl⟩ := h1
  obtain ⟨z', l', _, b, _, rfl⟩ := h2
  rw [← a, ← b]
open Classical in
noncomputable def g240 (args : List V) (objs : List O) : Option Out := if h : ∃ out, R240 args objs out then some h.choose else none
theorem g240_of {args : List V} {objs : List O} {out : Out} (h : R240 args objs out) : g240 args objs = some out := by
  unfold g240
  rw [dif_pos ⟨out, h⟩]
  exact congrArg some (R240_det (Exists.choose_spec (⟨out, h⟩ : ∃ out, R240 args objs out)) h)
theorem R240_of {args : List V} {objs : List O} {out : Out} (h : g240 args objs = some out) : R240 args objs out := by
  unfold g240 at h
  split at h
  · rename_i h'; cases h; exact h'.choose_spec
  · cases h
theorem R240_ok {args : List V} {objs : List O} {out : Out} (h : R240 args objs out) : CallOK Tryz.prog 240 args objs out := by
  obtain ⟨z, l, hl, rfl, rfl, rfl⟩ := h
  cases l with
  | nil =>
    cases z with
    | true => exact sound0 (clo0 0) bodied240
    | false => exact ok240e
  | cons x l =>
    have e : listD z 2 ((x :: l).map lvD) = .s 2 ((x :: l).map lvD) := listD_ne (by simp)
    rw [e]
    exact sound0 (clone240 E0 rfl x l (by simp at hl; omega)) bodied240
noncomputable def E2 : Ext := fun f => if f = 240 then some g240 else E1 f
theorem rec2 : RecOK Tryz.prog (run Tryz.prog E2) := by
  refine recOK_run named (fun f g args objs out h1 h2 => ?_) mixes
  unfold E2 at h1
  by_cases h0 : f = 240
  · subst h0; rw [if_pos rfl] at h1; cases h1; exact .inl ⟨bodied240, R240_ok (R240_of h2)⟩
  rw [if_neg h0] at h1
  unfold E1 at h1
  by_cases h : f = 121
  · subst h; rw [if_pos rfl] at h1; cases h1; exact .inl ⟨bodied121, R121_ok (R121_of h2)⟩
  · rw [if_neg h] at h1
    by_cases h' : f = 14
    · subst h'; rw [if_pos rfl] at h1; cases h1
      unfold g14 at h2
      split at h2
      · cases h2; exact .inl ⟨bodied14, sound0 awake0 bodied14⟩
      · cases h2
    · rw [if_neg h'] at h1; cases h1
theorem ex2 (n : FuncId) (h1 : n ≠ 14) (h2 : n ≠ 121) (h3 : n ≠ 240) : E2 n = none := by unfold E2; rw [if_neg h3]; exact ex1 n h1 h2
theorem awake2 : run Tryz.prog E2 (.call 14 [] []) = some (.ret [bV true] []) := by
  rw [run_eq]
  simp [stepA, E2, E1, g14]
theorem sorts2 : Sorts E2 := by
  intro z l hl
  rw [run_eq]
  simp only [stepA, E2, E1]
  exact g121_of ⟨z, l, hl, rfl, rfl, rfl⟩
theorem clones2 : Clones E2 := by
  intro z l hl
  rw [run_eq]
  simp only [stepA, E2, if_true]
  exact g240_of ⟨z, l, hl, rfl, rfl, rfl⟩
end Go.Proofs.YteenjodhmppgjaaGreatDoor.Am
end
