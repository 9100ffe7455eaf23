/-
  DERIVED. GIVEN WITH THE SEED: THE CARDS: each row of YtialjngnlekplaaGreatDoorRows.lean that lists a variable, with what it lists TIED to the program's text (the seventh form; the later family's looks); each row that meets fmt, with fmt's text TOLD by the authors' own Lean function (tested against real Go, not proved from fmt's source: count such statements apart). THE CARD IS WHAT COUNTS. Prove the row's statement (the work); the ties are given (YtialjngnlekplaaGreatDoorTie.lean); close each card by the builder's one call (the guide's Derived/Test/ToyasCard.lean, 'card_holds'). Laid BY PROGRAM, IN A SANDBOX (cutbox-door.mjs). By AI agents, Wed Nov 11 2026. No macro, syntax, notation, axiom, sorry.
-/
import Derived.Test.YtialjngnlekplaaGreatDoorRows
import GoSem.ClaimSeven
namespace Go.Proofs.YtialjngnlekplaaGreatDoor
namespace Rows

/-- THE TIED CARD OF 'dowellaw55.CatalogueTouches'. -/
def catalogueTouchesCard : Claim7 := { stood := { row := catalogueTouchesRow, standIns := [], harness := (true, "708af3c0c1abeac510c05b3a6dc1641e1b4a0ceaeae7feaaacf2ad8c19e5fb95"), looks := true }, kinds := [], alts := [], laidByText := true, laidKinds := [.data, .data, .data, .data, .sentinel, .sentinel, .pinned], laidTests := true, laidLooks := .later }
def CatalogueTouchesCardSaid : Prop := Claim7.holds Tryz.pinned (.plain (OpenSpec.ofChange catalogueTouchesSpec)) catalogueTouchesCard

/-- THE TIED CARD OF 'dowellaw55.CatalogueMoves'. -/
def catalogueMovesCard : Claim7 := { stood := { row := catalogueMovesRow, standIns := [], harness := (true, "708af3c0c1abeac510c05b3a6dc1641e1b4a0ceaeae7feaaacf2ad8c19e5fb95"), looks := true }, kinds := [], alts := [], laidByText := true, laidKinds := [.data, .data, .data, .data, .sentinel, .sentinel, .pinned], laidTests := true, laidLooks := .later }
def CatalogueMovesCardSaid : Prop := Claim7.holds Tryz.pinned (.plain (OpenSpec.ofChange catalogueMovesSpec)) catalogueMovesCard

/-- THE SECOND FORM's CARD OF 'dowellaw55.CatalogueTouches'. -/
def catalogueTouchesUptoCard : Claim7 := { stood := { row := catalogueTouchesUptoRow, standIns := [], harness := (true, "708af3c0c1abeac510c05b3a6dc1641e1b4a0ceaeae7feaaacf2ad8c19e5fb95"), looks := true }, kinds := [], alts := [], laidByText := true, laidKinds := [.data, .data, .data, .data, .sentinel, .sentinel, .pinned], laidTests := true, laidLooks := .later }
def CatalogueTouchesUptoCardSaid : Prop := Claim7.holds Tryz.pinned (.plain (OpenSpec.upto catalogueTouchesSpec)) catalogueTouchesUptoCard

/-- THE SECOND FORM's CARD OF 'dowellaw55.CatalogueMoves'. -/
def catalogueMovesUptoCard : Claim7 := { stood := { row := catalogueMovesUptoRow, standIns := [], harness := (true, "708af3c0c1abeac510c05b3a6dc1641e1b4a0ceaeae7feaaacf2ad8c19e5fb95"), looks := true }, kinds := [], alts := [], laidByText := true, laidKinds := [.data, .data, .data, .data, .sentinel, .sentinel, .pinned], laidTests := true, laidLooks := .later }
def CatalogueMovesUptoCardSaid : Prop := Claim7.holds Tryz.pinned (.plain (OpenSpec.upto catalogueMovesSpec)) catalogueMovesUptoCard
end Rows
end Go.Proofs.YtialjngnlekplaaGreatDoor
