/-
  DERIVED. GIVEN WITH THE SEED: THE CARDS: each row of YtmjacokkgfophaaDoorRows.lean that lists a variable, with what it lists TIED to the program's text (the seventh form; the later family's looks); each row that meets fmt, with fmt's text TOLD by the authors' own Lean function (tested against real Go, not proved from fmt's source: count such statements apart). THE CARD IS WHAT COUNTS. Prove the row's statement (the work); the ties are given (YtmjacokkgfophaaDoorTie.lean); close each card by the builder's one call (the guide's Derived/Test/ToyasCard.lean, 'card_holds'). Laid BY PROGRAM, IN A SANDBOX (cutbox-door.mjs). By AI agents, Wed Nov 11 2026. No macro, syntax, notation, axiom, sorry.
-/
import Derived.Test.YtmjacokkgfophaaDoorRows
import GoSem.ClaimSeven
namespace Go.Proofs.YtmjacokkgfophaaDoor
namespace Rows

/-- THE TIED CARD OF 'tenetlaw21.EraseHeads'. -/
def eraseHeadsCard : Claim7 := { stood := { row := eraseHeadsRow, standIns := [], harness := (true, "3510097008eb1a0a32107fed7ae54f570f12f59d3792fa3bf75ddd0144c49696"), looks := true }, kinds := [], alts := [], laidByText := true, laidKinds := [.data, .pinned], laidTests := true, laidLooks := .later }
def EraseHeadsCardSaid : Prop := Claim7.holds Tryd.pinned (.plain (OpenSpec.ofChange eraseHeadsSpec)) eraseHeadsCard

/-- THE TIED CARD OF 'tenetlaw21.EraseFuels'. -/
def eraseFuelsCard : Claim7 := { stood := { row := eraseFuelsRow, standIns := [], harness := (true, "3510097008eb1a0a32107fed7ae54f570f12f59d3792fa3bf75ddd0144c49696"), looks := true }, kinds := [], alts := [], laidByText := true, laidKinds := [.data, .pinned], laidTests := true, laidLooks := .later }
def EraseFuelsCardSaid : Prop := Claim7.holds Tryd.pinned (.plain (OpenSpec.ofChange eraseFuelsSpec)) eraseFuelsCard

/-- THE SECOND FORM's CARD OF 'tenetlaw21.EraseHeads'. -/
def eraseHeadsUptoCard : Claim7 := { stood := { row := eraseHeadsUptoRow, standIns := [], harness := (true, "3510097008eb1a0a32107fed7ae54f570f12f59d3792fa3bf75ddd0144c49696"), looks := true }, kinds := [], alts := [], laidByText := true, laidKinds := [.data, .pinned], laidTests := true, laidLooks := .later }
def EraseHeadsUptoCardSaid : Prop := Claim7.holds Tryd.pinned (.plain (OpenSpec.upto eraseHeadsSpec)) eraseHeadsUptoCard

/-- THE SECOND FORM's CARD OF 'tenetlaw21.EraseFuels'. -/
def eraseFuelsUptoCard : Claim7 := { stood := { row := eraseFuelsUptoRow, standIns := [], harness := (true, "3510097008eb1a0a32107fed7ae54f570f12f59d3792fa3bf75ddd0144c49696"), looks := true }, kinds := [], alts := [], laidByText := true, laidKinds := [.data, .pinned], laidTests := true, laidLooks := .later }
def EraseFuelsUptoCardSaid : Prop := Claim7.holds Tryd.pinned (.plain (OpenSpec.upto eraseFuelsSpec)) eraseFuelsUptoCard
end Rows
end Go.Proofs.YtmjacokkgfophaaDoor
