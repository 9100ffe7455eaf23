/-
  DERIVED. GIVEN WITH THE SEED: THE CARDS: each row of YtpbjekedjbjeeaaGreatDoorRows.lean that lists a variable, with what it lists TIED to the program's text (the seventh form; the later family's looks); each row that meets fmt, with fmt's text TOLD by the authors' own Lean function (tested against real Go, not proved from fmt's source: count such statements apart). THE CARD IS WHAT COUNTS. Prove the row's statement (the work); the ties are given (YtpbjekedjbjeeaaGreatDoorTie.lean); close each card by the builder's one call (the guide's Derived/Test/ToyasCard.lean, 'card_holds'). Laid BY PROGRAM, IN A SANDBOX (cutbox-door.mjs). By AI agents, Wed Nov 11 2026. No macro, syntax, notation, axiom, sorry.
-/
import Derived.Test.YtpbjekedjbjeeaaGreatDoorRows
import GoSem.ClaimSeven
namespace Go.Proofs.YtpbjekedjbjeeaaGreatDoor
namespace Rows

/-- THE TIED CARD OF 'dowellaw21.BlockingGraphs'. -/
def blockingGraphsCard : Claim7 := { stood := { row := blockingGraphsRow, standIns := [], harness := (true, "ea786f615460f24af2d0a2c33bb3f5ea24759a671588b97620b9dc394364d4a1"), looks := true }, kinds := [], alts := [], laidByText := true, laidKinds := [.data, .data, .data, .data, .sentinel, .sentinel, .pinned], laidTests := true, laidLooks := .later }
def BlockingGraphsCardSaid : Prop := Claim7.holds Tryz.pinned (.plain (OpenSpec.ofChange blockingGraphsSpec)) blockingGraphsCard

/-- THE SECOND FORM's CARD OF 'dowellaw21.BlockingGraphs'. -/
def blockingGraphsUptoCard : Claim7 := { stood := { row := blockingGraphsUptoRow, standIns := [], harness := (true, "ea786f615460f24af2d0a2c33bb3f5ea24759a671588b97620b9dc394364d4a1"), looks := true }, kinds := [], alts := [], laidByText := true, laidKinds := [.data, .data, .data, .data, .sentinel, .sentinel, .pinned], laidTests := true, laidLooks := .later }
def BlockingGraphsUptoCardSaid : Prop := Claim7.holds Tryz.pinned (.plain (OpenSpec.upto blockingGraphsSpec)) blockingGraphsUptoCard
end Rows
end Go.Proofs.YtpbjekedjbjeeaaGreatDoor
