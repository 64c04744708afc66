/-
  DERIVED. GIVEN WITH THE SEED: THE CARDS: each row of YteenjodhmppgjaaGreatDoorRows.lean that lists a variable, with what it lists TIED to the program's text (the seventh form; the later family's looks); each row that meets fmt, with fmt's text TOLD by the authors' own Lean function (tested against real Go, not proved from fmt's source: count such statements apart). THE CARD IS WHAT COUNTS. Prove the row's statement (the work); the ties are given (YteenjodhmppgjaaGreatDoorTie.lean); close each card by the builder's one call (the guide's Derived/Test/ToyasCard.lean, 'card_holds'). Laid BY PROGRAM, IN A SANDBOX (cutbox-door.mjs). By AI agents, Wed Nov 11 2026. No macro, syntax, notation, axiom, sorry.
-/
import Derived.Test.YteenjodhmppgjaaGreatDoorRows
import GoSem.ClaimSeven
namespace Go.Proofs.YteenjodhmppgjaaGreatDoor
namespace Rows

/-- THE TIED CARD OF 'tenetlaw04.TableChecks'. -/
def tableChecksCard : Claim7 := { stood := { row := tableChecksRow, standIns := [], harness := (true, "b6ba6f33f87ebbb17c2725e63910de33b6bff7d3c91973da12170d501ce53f40"), looks := true }, kinds := [], alts := [], laidByText := true, laidKinds := [.handle], laidTests := true, laidLooks := .later }
def TableChecksCardSaid : Prop := Claim7.holds Tryz.pinned (.plain (OpenSpec.ofChange tableChecksSpec)) tableChecksCard

/-- THE TIED CARD OF 'tenetlaw04.TableMany'. -/
def tableManyCard : Claim7 := { stood := { row := tableManyRow, standIns := [], harness := (true, "b6ba6f33f87ebbb17c2725e63910de33b6bff7d3c91973da12170d501ce53f40"), looks := true }, kinds := [], alts := [], laidByText := true, laidKinds := [.handle], laidTests := true, laidLooks := .later }
def TableManyCardSaid : Prop := Claim7.holds Tryz.pinned (.plain (OpenSpec.ofChange tableManySpec)) tableManyCard

/-- THE TIED CARD OF 'tenetlaw04.TableFits'. -/
def tableFitsCard : Claim7 := { stood := { row := tableFitsRow, standIns := [], harness := (true, "b6ba6f33f87ebbb17c2725e63910de33b6bff7d3c91973da12170d501ce53f40"), looks := true }, kinds := [], alts := [], laidByText := true, laidKinds := [.handle], laidTests := true, laidLooks := .later }
def TableFitsCardSaid : Prop := Claim7.holds Tryz.pinned (.plain (OpenSpec.ofChange tableFitsSpec)) tableFitsCard

/-- THE TIED CARD OF 'tenetlaw04.TableLast'. -/
def tableLastCard : Claim7 := { stood := { row := tableLastRow, standIns := [], harness := (true, "b6ba6f33f87ebbb17c2725e63910de33b6bff7d3c91973da12170d501ce53f40"), looks := true }, kinds := [], alts := [], laidByText := true, laidKinds := [.handle], laidTests := true, laidLooks := .later }
def TableLastCardSaid : Prop := Claim7.holds Tryz.pinned (.plain (OpenSpec.ofChange tableLastSpec)) tableLastCard

/-- THE TIED CARD OF 'tenetlaw04.TableRecursive'. -/
def tableRecursiveCard : Claim7 := { stood := { row := tableRecursiveRow, standIns := [], harness := (true, "b6ba6f33f87ebbb17c2725e63910de33b6bff7d3c91973da12170d501ce53f40"), looks := true }, kinds := [], alts := [], laidByText := true, laidKinds := [.handle], laidTests := true, laidLooks := .later }
def TableRecursiveCardSaid : Prop := Claim7.holds Tryz.pinned (.plain (OpenSpec.ofChange tableRecursiveSpec)) tableRecursiveCard

/-- THE TIED CARD OF 'tenetlaw04.TableTypes'. -/
def tableTypesCard : Claim7 := { stood := { row := tableTypesRow, standIns := [], harness := (true, "b6ba6f33f87ebbb17c2725e63910de33b6bff7d3c91973da12170d501ce53f40"), looks := true }, kinds := [], alts := [], laidByText := true, laidKinds := [.handle], laidTests := true, laidLooks := .later }
def TableTypesCardSaid : Prop := Claim7.holds Tryz.pinned (.plain (OpenSpec.ofChange tableTypesSpec)) tableTypesCard

/-- THE TIED CARD OF 'tenetlaw04.TableFamilies'. -/
def tableFamiliesCard : Claim7 := { stood := { row := tableFamiliesRow, standIns := [], harness := (true, "b6ba6f33f87ebbb17c2725e63910de33b6bff7d3c91973da12170d501ce53f40"), looks := true }, kinds := [], alts := [], laidByText := true, laidKinds := [.handle], laidTests := true, laidLooks := .later }
def TableFamiliesCardSaid : Prop := Claim7.holds Tryz.pinned (.plain (OpenSpec.ofChange tableFamiliesSpec)) tableFamiliesCard

/-- THE TIED CARD OF 'tenetlaw04.TableOwn'. -/
def tableOwnCard : Claim7 := { stood := { row := tableOwnRow, standIns := [], harness := (true, "b6ba6f33f87ebbb17c2725e63910de33b6bff7d3c91973da12170d501ce53f40"), looks := true }, kinds := [], alts := [], laidByText := true, laidKinds := [.handle], laidTests := true, laidLooks := .later }
def TableOwnCardSaid : Prop := Claim7.holds Tryz.pinned (.plain (OpenSpec.ofChange tableOwnSpec)) tableOwnCard

/-- THE TIED CARD OF 'tenetlaw04.TableHypotheses'. -/
def tableHypothesesCard : Claim7 := { stood := { row := tableHypothesesRow, standIns := [], harness := (true, "b6ba6f33f87ebbb17c2725e63910de33b6bff7d3c91973da12170d501ce53f40"), looks := true }, kinds := [], alts := [], laidByText := true, laidKinds := [.handle], laidTests := true, laidLooks := .later }
def TableHypothesesCardSaid : Prop := Claim7.holds Tryz.pinned (.plain (OpenSpec.ofChange tableHypothesesSpec)) tableHypothesesCard

/-- THE TIED CARD OF 'tenetlaw04.TableValues'. -/
def tableValuesCard : Claim7 := { stood := { row := tableValuesRow, standIns := [], harness := (true, "b6ba6f33f87ebbb17c2725e63910de33b6bff7d3c91973da12170d501ce53f40"), looks := true }, kinds := [], alts := [], laidByText := true, laidKinds := [.handle], laidTests := true, laidLooks := .later }
def TableValuesCardSaid : Prop := Claim7.holds Tryz.pinned (.plain (OpenSpec.ofChange tableValuesSpec)) tableValuesCard

/-- THE SECOND FORM's CARD OF 'tenetlaw04.TableChecks'. -/
def tableChecksUptoCard : Claim7 := { stood := { row := tableChecksUptoRow, standIns := [], harness := (true, "b6ba6f33f87ebbb17c2725e63910de33b6bff7d3c91973da12170d501ce53f40"), looks := true }, kinds := [], alts := [], laidByText := true, laidKinds := [.handle], laidTests := true, laidLooks := .later }
def TableChecksUptoCardSaid : Prop := Claim7.holds Tryz.pinned (.plain (OpenSpec.upto tableChecksSpec)) tableChecksUptoCard

/-- THE SECOND FORM's CARD OF 'tenetlaw04.TableMany'. -/
def tableManyUptoCard : Claim7 := { stood := { row := tableManyUptoRow, standIns := [], harness := (true, "b6ba6f33f87ebbb17c2725e63910de33b6bff7d3c91973da12170d501ce53f40"), looks := true }, kinds := [], alts := [], laidByText := true, laidKinds := [.handle], laidTests := true, laidLooks := .later }
def TableManyUptoCardSaid : Prop := Claim7.holds Tryz.pinned (.plain (OpenSpec.upto tableManySpec)) tableManyUptoCard

/-- THE SECOND FORM's CARD OF 'tenetlaw04.TableFits'. -/
def tableFitsUptoCard : Claim7 := { stood := { row := tableFitsUptoRow, standIns := [], harness := (true, "b6ba6f33f87ebbb17c2725e63910de33b6bff7d3c91973da12170d501ce53f40"), looks := true }, kinds := [], alts := [], laidByText := true, laidKinds := [.handle], laidTests := true, laidLooks := .later }
def TableFitsUptoCardSaid : Prop := Claim7.holds Tryz.pinned (.plain (OpenSpec.upto tableFitsSpec)) tableFitsUptoCard

/-- THE SECOND FORM's CARD OF 'tenetlaw04.TableLast'. -/
def tableLastUptoCard : Claim7 := { stood := { row := tableLastUptoRow, standIns := [], harness := (true, "b6ba6f33f87ebbb17c2725e63910de33b6bff7d3c91973da12170d501ce53f40"), looks := true }, kinds := [], alts := [], laidByText := true, laidKinds := [.handle], laidTests := true, laidLooks := .later }
def TableLastUptoCardSaid : Prop := Claim7.holds Tryz.pinned (.plain (OpenSpec.upto tableLastSpec)) tableLastUptoCard

/-- THE SECOND FORM's CARD OF 'tenetlaw04.TableRecursive'. -/
def tableRecursiveUptoCard : Claim7 := { stood := { row := tableRecursiveUptoRow, standIns := [], harness := (true, "b6ba6f33f87ebbb17c2725e63910de33b6bff7d3c91973da12170d501ce53f40"), looks := true }, kinds := [], alts := [], laidByText := true, laidKinds := [.handle], laidTests := true, laidLooks := .later }
def TableRecursiveUptoCardSaid : Prop := Claim7.holds Tryz.pinned (.plain (OpenSpec.upto tableRecursiveSpec)) tableRecursiveUptoCard

/-- THE SECOND FORM's CARD OF 'tenetlaw04.TableTypes'. -/
def tableTypesUptoCard : Claim7 := { stood := { row := tableTypesUptoRow, standIns := [], harness := (true, "b6ba6f33f87ebbb17c2725e63910de33b6bff7d3c91973da12170d501ce53f40"), looks := true }, kinds := [], alts := [], laidByText := true, laidKinds := [.handle], laidTests := true, laidLooks := .later }
def TableTypesUptoCardSaid : Prop := Claim7.holds Tryz.pinned (.plain (OpenSpec.upto tableTypesSpec)) tableTypesUptoCard

/-- THE SECOND FORM's CARD OF 'tenetlaw04.TableFamilies'. -/
def tableFamiliesUptoCard : Claim7 := { stood := { row := tableFamiliesUptoRow, standIns := [], harness := (true, "b6ba6f33f87ebbb17c2725e63910de33b6bff7d3c91973da12170d501ce53f40"), looks := true }, kinds := [], alts := [], laidByText := true, laidKinds := [.handle], laidTests := true, laidLooks := .later }
def TableFamiliesUptoCardSaid : Prop := Claim7.holds Tryz.pinned (.plain (OpenSpec.upto tableFamiliesSpec)) tableFamiliesUptoCard

/-- THE SECOND FORM's CARD OF 'tenetlaw04.TableOwn'. -/
def tableOwnUptoCard : Claim7 := { stood := { row := tableOwnUptoRow, standIns := [], harness := (true, "b6ba6f33f87ebbb17c2725e63910de33b6bff7d3c91973da12170d501ce53f40"), looks := true }, kinds := [], alts := [], laidByText := true, laidKinds := [.handle], laidTests := true, laidLooks := .later }
def TableOwnUptoCardSaid : Prop := Claim7.holds Tryz.pinned (.plain (OpenSpec.upto tableOwnSpec)) tableOwnUptoCard

/-- THE SECOND FORM's CARD OF 'tenetlaw04.TableHypotheses'. -/
def tableHypothesesUptoCard : Claim7 := { stood := { row := tableHypothesesUptoRow, standIns := [], harness := (true, "b6ba6f33f87ebbb17c2725e63910de33b6bff7d3c91973da12170d501ce53f40"), looks := true }, kinds := [], alts := [], laidByText := true, laidKinds := [.handle], laidTests := true, laidLooks := .later }
def TableHypothesesUptoCardSaid : Prop := Claim7.holds Tryz.pinned (.plain (OpenSpec.upto tableHypothesesSpec)) tableHypothesesUptoCard

/-- THE SECOND FORM's CARD OF 'tenetlaw04.TableValues'. -/
def tableValuesUptoCard : Claim7 := { stood := { row := tableValuesUptoRow, standIns := [], harness := (true, "b6ba6f33f87ebbb17c2725e63910de33b6bff7d3c91973da12170d501ce53f40"), looks := true }, kinds := [], alts := [], laidByText := true, laidKinds := [.handle], laidTests := true, laidLooks := .later }
def TableValuesUptoCardSaid : Prop := Claim7.holds Tryz.pinned (.plain (OpenSpec.upto tableValuesSpec)) tableValuesUptoCard
end Rows
end Go.Proofs.YteenjodhmppgjaaGreatDoor
