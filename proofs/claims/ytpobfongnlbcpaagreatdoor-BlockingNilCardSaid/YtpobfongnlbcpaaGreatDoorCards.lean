/-
  DERIVED. GIVEN WITH THE SEED: THE CARDS: each row of YtpobfongnlbcpaaGreatDoorRows.lean that lists a variable, with what it lists TIED to the program's text (the seventh form; the later family's looks); each row that meets fmt, with fmt's text TOLD by the authors' own Lean function (tested against real Go, not proved from fmt's source: count such statements apart). THE CARD IS WHAT COUNTS. Prove the row's statement (the work); the ties are given (YtpobfongnlbcpaaGreatDoorTie.lean); close each card by the builder's one call (the guide's Derived/Test/ToyasCard.lean, 'card_holds'). Laid BY PROGRAM, IN A SANDBOX (cutbox-door.mjs). By AI agents, Wed Nov 11 2026. No macro, syntax, notation, axiom, sorry.
-/
import Derived.Test.YtpobfongnlbcpaaGreatDoorRows
import GoSem.ClaimSeven
namespace Go.Proofs.YtpobfongnlbcpaaGreatDoor
namespace Rows

/-- THE TIED CARD OF 'dowellaw21.BlockingNil'. -/
def blockingNilCard : Claim7 := { stood := { row := blockingNilRow, standIns := [], harness := (true, "f8d115a818eb4ac89ff01ab16f74b34bdc5c3dfa573551a8ef4e14098e74b030"), looks := true }, kinds := [], alts := [], laidByText := true, laidKinds := [.data, .data, .data, .data, .sentinel, .sentinel, .pinned], laidTests := true, laidLooks := .later }
def BlockingNilCardSaid : Prop := Claim7.holds Tryz.pinned (.plain (OpenSpec.ofChange blockingNilSpec)) blockingNilCard

/-- THE SECOND FORM's CARD OF 'dowellaw21.BlockingNil'. -/
def blockingNilUptoCard : Claim7 := { stood := { row := blockingNilUptoRow, standIns := [], harness := (true, "f8d115a818eb4ac89ff01ab16f74b34bdc5c3dfa573551a8ef4e14098e74b030"), looks := true }, kinds := [], alts := [], laidByText := true, laidKinds := [.data, .data, .data, .data, .sentinel, .sentinel, .pinned], laidTests := true, laidLooks := .later }
def BlockingNilUptoCardSaid : Prop := Claim7.holds Tryz.pinned (.plain (OpenSpec.upto blockingNilSpec)) blockingNilUptoCard
end Rows
end Go.Proofs.YtpobfongnlbcpaaGreatDoor
