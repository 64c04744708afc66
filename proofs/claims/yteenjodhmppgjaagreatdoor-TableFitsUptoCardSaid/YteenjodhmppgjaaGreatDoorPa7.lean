/- Part 7 of the proof of the card of TableFits, second form: no statement of its own; no conditions. -/
import Derived.Test.YteenjodhmppgjaaGreatDoorPa6
import Derived.Test.YteenjodhmppgjaaGreatDoorCards
import Derived.Test.YteenjodhmppgjaaGreatDoorTie
import Derived.WalkKit
import Derived.ProofKit
import Derived.OpenShut
import Derived.Deep.DeepHandedRow
set_option linter.unusedSimpArgs false
set_option linter.unusedVariables false
set_option linter.defProp false
set_option linter.unusedSectionVars false
section
/- The row's closed facts. -/
namespace Go.Proofs.YteenjodhmppgjaaGreatDoor.Am
open Go
set_option maxRecDepth 100000
/-- What the row says of the program, reckoned. -/
theorem closed5 : joinedFacts Tryz.prog 5 Tryz.f5 (Rows.OpenSpec.upto Rows.tableFitsSpec).bare Rows.tableFitsUptoRow = true := by kernel_rfl
theorem closedM5 : Tryz.f5.isInstance Tryz.pinned.checked.prog Rows.tableFitsUptoRow.origin Rows.tableFitsUptoRow.targs := (of_decide_eq_true (by kernel_rfl))
theorem closedM6 : Tryz.f5.isWrapper Tryz.pinned.checked.prog Rows.tableFitsUptoRow.wrapper Rows.tableFitsUptoRow.mainSum := (by unfold Func.isWrapper; first | (rw [if_pos (by decide +kernel)]; kernel_rfl) | (rw [if_neg (by decide +kernel)]; exact ⟨rfl, rfl⟩))
end Go.Proofs.YteenjodhmppgjaaGreatDoor.Am
end
