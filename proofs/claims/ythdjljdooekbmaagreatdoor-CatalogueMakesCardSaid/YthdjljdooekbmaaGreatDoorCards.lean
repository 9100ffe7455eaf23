/-
  DERIVED. GIVEN WITH THE SEED: THE CARDS: each row of YthdjljdooekbmaaGreatDoorRows.lean that lists a variable, with what it lists TIED to the program's text (the seventh form; the later family's looks); each row that meets fmt, with fmt's text TOLD by the authors' own Lean function (tested against real Go, not proved from fmt's source: count such statements apart). THE CARD IS WHAT COUNTS. Prove the row's statement (the work); the ties are given (YthdjljdooekbmaaGreatDoorTie.lean); close each card by the builder's one call (the guide's Derived/Test/ToyasCard.lean, 'card_holds'). Laid BY PROGRAM, IN A SANDBOX (cutbox-door.mjs). By AI agents, Wed Nov 11 2026. No macro, syntax, notation, axiom, sorry.
-/
import Derived.Test.YthdjljdooekbmaaGreatDoorRows
import GoSem.ClaimSeven
namespace Go.Proofs.YthdjljdooekbmaaGreatDoor
namespace Rows

/-- THE TIED CARD OF 'dowellaw55.CatalogueMakes'. -/
def catalogueMakesCard : Claim7 := { stood := { row := catalogueMakesRow, standIns := [], harness := (true, "5eae2050f43f8c7995f437c4939e45d91b66f272f77a23cc8ebfee53ea2ef1aa"), looks := true }, kinds := [], alts := [], laidByText := true, laidKinds := [.data, .data, .data, .data, .sentinel, .sentinel, .pinned], laidTests := true, laidLooks := .later }
def CatalogueMakesCardSaid : Prop := Claim7.holds Tryz.pinned (.plain (OpenSpec.ofChange catalogueMakesSpec)) catalogueMakesCard

/-- THE SECOND FORM's CARD OF 'dowellaw55.CatalogueMakes'. -/
def catalogueMakesUptoCard : Claim7 := { stood := { row := catalogueMakesUptoRow, standIns := [], harness := (true, "5eae2050f43f8c7995f437c4939e45d91b66f272f77a23cc8ebfee53ea2ef1aa"), looks := true }, kinds := [], alts := [], laidByText := true, laidKinds := [.data, .data, .data, .data, .sentinel, .sentinel, .pinned], laidTests := true, laidLooks := .later }
def CatalogueMakesUptoCardSaid : Prop := Claim7.holds Tryz.pinned (.plain (OpenSpec.upto catalogueMakesSpec)) catalogueMakesUptoCard
end Rows
end Go.Proofs.YthdjljdooekbmaaGreatDoor
