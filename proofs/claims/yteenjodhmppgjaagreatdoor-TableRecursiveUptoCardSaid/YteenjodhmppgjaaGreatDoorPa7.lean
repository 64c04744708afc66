/- Part 7 of the proof of the card of TableRecursive, second form: no statement of its own; no conditions. -/
import Derived.Test.YteenjodhmppgjaaGreatDoorPa6
import Derived.Test.YteenjodhmppgjaaGreatDoorCards
import Derived.Test.YteenjodhmppgjaaGreatDoorTie
import Derived.WalkKit
import Derived.ProofKit
import Derived.OpenShut
import Derived.Deep.DeepHandedRow
set_option linter.unusedSimpArgs false
set_option linter.unusedVariables false
set_option linter.defProp false
set_option linter.unusedSectionVars false
section
/- The row's closed facts. -/
namespace Go.Proofs.YteenjodhmppgjaaGreatDoor.Am
open Go
set_option maxRecDepth 100000
/-- What the row says of the program, reckoned. -/
theorem closed7 : joinedFacts Tryz.prog 7 Tryz.f7 (Rows.OpenSpec.upto Rows.tableRecursiveSpec).bare Rows.tableRecursiveUptoRow = true := by kernel_rfl
theorem closedN5 : Tryz.f7.isInstance Tryz.pinned.checked.prog Rows.tableRecursiveUptoRow.origin Rows.tableRecursiveUptoRow.targs := (of_decide_eq_true (by kernel_rfl))
theorem closedN6 : Tryz.f7.isWrapper Tryz.pinned.checked.prog Rows.tableRecursiveUptoRow.wrapper Rows.tableRecursiveUptoRow.mainSum := (by unfold Func.isWrapper; first | (rw [if_pos (by decide +kernel)]; kernel_rfl) | (rw [if_neg (by decide +kernel)]; exact ⟨rfl, rfl⟩))
end Go.Proofs.YteenjodhmppgjaaGreatDoor.Am
end
