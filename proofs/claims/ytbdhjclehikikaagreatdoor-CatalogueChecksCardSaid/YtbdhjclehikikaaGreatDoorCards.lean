/-
  DERIVED. GIVEN WITH THE SEED: THE CARDS: each row of YtbdhjclehikikaaGreatDoorRows.lean that lists a variable, with what it lists TIED to the program's text (the seventh form; the later family's looks); each row that meets fmt, with fmt's text TOLD by the authors' own Lean function (tested against real Go, not proved from fmt's source: count such statements apart). THE CARD IS WHAT COUNTS. Prove the row's statement (the work); the ties are given (YtbdhjclehikikaaGreatDoorTie.lean); close each card by the builder's one call (the guide's Derived/Test/ToyasCard.lean, 'card_holds'). Laid BY PROGRAM, IN A SANDBOX (cutbox-door.mjs). By AI agents, Wed Nov 11 2026. No macro, syntax, notation, axiom, sorry.
-/
import Derived.Test.YtbdhjclehikikaaGreatDoorRows
import GoSem.ClaimSeven
namespace Go.Proofs.YtbdhjclehikikaaGreatDoor
namespace Rows

/-- THE TIED CARD OF 'dowellaw55.CatalogueChecks'. -/
def catalogueChecksCard : Claim7 := { stood := { row := catalogueChecksRow, standIns := [], harness := (true, "5c58e80cc0cad98f634322c34402676c778285834ba0386fc5c01173120fcb3b"), looks := false }, kinds := [], alts := [], laidByText := true, laidKinds := [.data, .data, .data], laidTests := true, laidLooks := .later }
def CatalogueChecksCardSaid : Prop := Claim7.holds Tryz.pinned (.plain (OpenSpec.ofChange catalogueChecksSpec)) catalogueChecksCard

/-- THE SECOND FORM's CARD OF 'dowellaw55.CatalogueChecks'. -/
def catalogueChecksUptoCard : Claim7 := { stood := { row := catalogueChecksUptoRow, standIns := [], harness := (true, "5c58e80cc0cad98f634322c34402676c778285834ba0386fc5c01173120fcb3b"), looks := false }, kinds := [], alts := [], laidByText := true, laidKinds := [.data, .data, .data], laidTests := true, laidLooks := .later }
def CatalogueChecksUptoCardSaid : Prop := Claim7.holds Tryz.pinned (.plain (OpenSpec.upto catalogueChecksSpec)) catalogueChecksUptoCard
end Rows
end Go.Proofs.YtbdhjclehikikaaGreatDoor
