/-
  DERIVED. GIVEN WITH THE SEED: THE CARDS: each row of YtihglcfnelokaaaGreatDoorRows.lean that lists a variable, with what it lists TIED to the program's text (the seventh form; the later family's looks); each row that meets fmt, with fmt's text TOLD by the authors' own Lean function (tested against real Go, not proved from fmt's source: count such statements apart). THE CARD IS WHAT COUNTS. Prove the row's statement (the work); the ties are given (YtihglcfnelokaaaGreatDoorTie.lean); close each card by the builder's one call (the guide's Derived/Test/ToyasCard.lean, 'card_holds'). Laid BY PROGRAM, IN A SANDBOX (cutbox-door.mjs). By AI agents, Wed Nov 11 2026. No macro, syntax, notation, axiom, sorry.
-/
import Derived.Test.YtihglcfnelokaaaGreatDoorRows
import GoSem.ClaimSeven
namespace Go.Proofs.YtihglcfnelokaaaGreatDoor
namespace Rows

/-- THE TIED CARD OF 'dowellaw21.BlockingParts'. -/
def blockingPartsCard : Claim7 := { stood := { row := blockingPartsRow, standIns := [], harness := (true, "38eba83239f6f56a8bd8402d51b15095c1e532db48a3b93f222c85d109b1f030"), looks := true }, kinds := [], alts := [], laidByText := true, laidKinds := [.data, .data, .data, .pinned, .data, .sentinel, .sentinel], laidTests := true, laidLooks := .later }
def BlockingPartsCardSaid : Prop := Claim7.holds Tryz.pinned (.plain (OpenSpec.ofChange blockingPartsSpec)) blockingPartsCard

/-- THE SECOND FORM's CARD OF 'dowellaw21.BlockingParts'. -/
def blockingPartsUptoCard : Claim7 := { stood := { row := blockingPartsUptoRow, standIns := [], harness := (true, "38eba83239f6f56a8bd8402d51b15095c1e532db48a3b93f222c85d109b1f030"), looks := true }, kinds := [], alts := [], laidByText := true, laidKinds := [.data, .data, .data, .pinned, .data, .sentinel, .sentinel], laidTests := true, laidLooks := .later }
def BlockingPartsUptoCardSaid : Prop := Claim7.holds Tryz.pinned (.plain (OpenSpec.upto blockingPartsSpec)) blockingPartsUptoCard
end Rows
end Go.Proofs.YtihglcfnelokaaaGreatDoor
