/- A part of the proof of a card. No conditions. -/
import Derived.Test.YteenjodhmppgjaaGreatDoorPa3
import Derived.Test.YteenjodhmppgjaaGreatDoorCards
import Derived.Test.YteenjodhmppgjaaGreatDoorTie
import Derived.WalkKit
import Derived.ProofKit
import Derived.OpenShut
import Derived.Deep.DeepHandedRow
set_option linter.all false
set_option maxHeartbeats 16000000
set_option maxRecDepth 10000
namespace Go.Proofs.YteenjodhmppgjaaGreatDoor.Am
open Go.Proofs.Tryz
section
open Go
theorem lL1 : joinedFacts prog 10 f10 (Rows.OpenSpec.upto Rows.tableOwnSpec).bare Rows.tableOwnUptoRow=true:=by kernel_rfl
theorem lM1 : f10.isInstance Tryz.pinned.checked.prog Rows.tableOwnUptoRow.origin Rows.tableOwnUptoRow.targs:=(of_decide_eq_true (by kernel_rfl))
theorem lN1 : f10.isWrapper Tryz.pinned.checked.prog Rows.tableOwnUptoRow.wrapper Rows.tableOwnUptoRow.mainSum:=(by unfold Func.isWrapper;first | (rw[if_pos (by decide +kernel)];kernel_rfl) | (rw[if_neg (by decide +kernel)];exact⟨rfl,rfl⟩))
end
end Go.Proofs.YteenjodhmppgjaaGreatDoor.Am
