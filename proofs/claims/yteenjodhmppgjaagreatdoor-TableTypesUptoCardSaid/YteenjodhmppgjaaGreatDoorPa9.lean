/- Part 9 of the proof of the card of TableTypes, second form: no statement of its own; no conditions. -/
import Derived.Test.YteenjodhmppgjaaGreatDoorPa8
import Derived.Test.YteenjodhmppgjaaGreatDoorCards
import Derived.Test.YteenjodhmppgjaaGreatDoorTie
import Derived.WalkKit
import Derived.ProofKit
import Derived.OpenShut
import Derived.Deep.DeepHandedRow
set_option linter.unusedSimpArgs false
set_option linter.unusedVariables false
set_option linter.defProp false
set_option linter.unusedSectionVars false
section
/- The row's closed facts. -/
namespace Go.Proofs.YteenjodhmppgjaaGreatDoor.Am
open Go
set_option maxRecDepth 100000
/-- What the row says of the program, reckoned. -/
theorem closed8 : joinedFacts Tryz.prog 8 Tryz.f8 (Rows.OpenSpec.upto Rows.tableTypesSpec).bare Rows.tableTypesUptoRow = true := by kernel_rfl
theorem closed5 : Tryz.f8.isInstance Tryz.pinned.checked.prog Rows.tableTypesUptoRow.origin Rows.tableTypesUptoRow.targs := (of_decide_eq_true (by kernel_rfl))
theorem closed6 : Tryz.f8.isWrapper Tryz.pinned.checked.prog Rows.tableTypesUptoRow.wrapper Rows.tableTypesUptoRow.mainSum := (by unfold Func.isWrapper; first | (rw [if_pos (by decide +kernel)]; kernel_rfl) | (rw [if_neg (by decide +kernel)]; exact ⟨rfl, rfl⟩))
end Go.Proofs.YteenjodhmppgjaaGreatDoor.Am
end
