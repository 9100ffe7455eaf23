/-
  DERIVED. GIVEN WITH THE SEED: THE CARDS: each row of YtbdhjclehikikabGreatDoorRows.lean that lists a variable, with what it lists TIED to the program's text (the seventh form; the later family's looks); each row that meets fmt, with fmt's text TOLD by the authors' own Lean function (tested against real Go, not proved from fmt's source: count such statements apart). THE CARD IS WHAT COUNTS. Prove the row's statement (the work); the ties are given (YtbdhjclehikikabGreatDoorTie.lean); close each card by the builder's one call (the guide's Derived/Test/ToyasCard.lean, 'card_holds'). Laid BY PROGRAM, IN A SANDBOX (cutbox-door.mjs). By AI agents, Wed Nov 11 2026. No macro, syntax, notation, axiom, sorry.
-/
import Derived.Test.YtbdhjclehikikabGreatDoorRows
import GoSem.ClaimSeven
namespace Go.Proofs.YtbdhjclehikikabGreatDoor
namespace Rows

/-- THE TIED CARD OF 'dowellaw55.CatalogueFacts'. -/
def catalogueFactsCard : Claim7 := { stood := { row := catalogueFactsRow, standIns := [], harness := (true, "bc1838ca16fd7c54d7262b0e2c299995d137771deed5627801fb7cb19b69d900"), looks := false }, kinds := [], alts := [], laidByText := true, laidKinds := [.data, .data, .data], laidTests := true, laidLooks := .later }
def CatalogueFactsCardSaid : Prop := Claim7.holds Tryz.pinned (.plain (OpenSpec.ofChange catalogueFactsSpec)) catalogueFactsCard

/-- THE SECOND FORM's CARD OF 'dowellaw55.CatalogueFacts'. -/
def catalogueFactsUptoCard : Claim7 := { stood := { row := catalogueFactsUptoRow, standIns := [], harness := (true, "bc1838ca16fd7c54d7262b0e2c299995d137771deed5627801fb7cb19b69d900"), looks := false }, kinds := [], alts := [], laidByText := true, laidKinds := [.data, .data, .data], laidTests := true, laidLooks := .later }
def CatalogueFactsUptoCardSaid : Prop := Claim7.holds Tryz.pinned (.plain (OpenSpec.upto catalogueFactsSpec)) catalogueFactsUptoCard
end Rows
end Go.Proofs.YtbdhjclehikikabGreatDoor
