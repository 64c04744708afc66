/- Part 10 of the proof of the card of TableFamilies, second form: no statement of its own; no conditions. -/
import Derived.Test.YteenjodhmppgjaaGreatDoorPa9
import Derived.Test.YteenjodhmppgjaaGreatDoorCards
import Derived.Test.YteenjodhmppgjaaGreatDoorTie
import Derived.WalkKit
import Derived.ProofKit
import Derived.OpenShut
import Derived.Deep.DeepHandedRow
set_option linter.unusedSimpArgs false
set_option linter.unusedVariables false
set_option linter.defProp false
set_option linter.unusedSectionVars false
section
/- The row's closed facts. -/
namespace Go.Proofs.YteenjodhmppgjaaGreatDoor.Am
open Go
set_option maxRecDepth 100000
/-- What the row says of the program, reckoned. -/
theorem closed9 : joinedFacts Tryz.prog 9 Tryz.f9 (Rows.OpenSpec.upto Rows.tableFamiliesSpec).bare Rows.tableFamiliesUptoRow = true := by kernel_rfl
theorem closedN5 : Tryz.f9.isInstance Tryz.pinned.checked.prog Rows.tableFamiliesUptoRow.origin Rows.tableFamiliesUptoRow.targs := (of_decide_eq_true (by kernel_rfl))
theorem closedN6 : Tryz.f9.isWrapper Tryz.pinned.checked.prog Rows.tableFamiliesUptoRow.wrapper Rows.tableFamiliesUptoRow.mainSum := (by unfold Func.isWrapper; first | (rw [if_pos (by decide +kernel)]; kernel_rfl) | (rw [if_neg (by decide +kernel)]; exact ⟨rfl, rfl⟩))
end Go.Proofs.YteenjodhmppgjaaGreatDoor.Am
end
