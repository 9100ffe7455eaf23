/-
  DERIVED. GIVEN WITH THE SEED: THE CARDS: each row of YtilmgbneiikbiaaGreatDoorRows.lean that lists a variable, with what it lists TIED to the program's text (the seventh form; the later family's looks); each row that meets fmt, with fmt's text TOLD by the authors' own Lean function (tested against real Go, not proved from fmt's source: count such statements apart). THE CARD IS WHAT COUNTS. Prove the row's statement (the work); the ties are given (YtilmgbneiikbiaaGreatDoorTie.lean); close each card by the builder's one call (the guide's Derived/Test/ToyasCard.lean, 'card_holds'). Laid BY PROGRAM, IN A SANDBOX (cutbox-door.mjs). By AI agents, Wed Nov 11 2026. No macro, syntax, notation, axiom, sorry.
-/
import Derived.Test.YtilmgbneiikbiaaGreatDoorRows
import GoSem.ClaimSeven
namespace Go.Proofs.YtilmgbneiikbiaaGreatDoor
namespace Rows

/-- THE TIED CARD OF 'dowellaw21.BlockingOpens'. -/
def blockingOpensCard : Claim7 := { stood := { row := blockingOpensRow, standIns := [], harness := (true, "1cf9b4eae10b8c8a0fd8aa50b6345969a822f1df874c704acd892da908a99b20"), looks := true }, kinds := [], alts := [], laidByText := true, laidKinds := [.data, .data, .data, .data, .sentinel, .sentinel, .pinned], laidTests := true, laidLooks := .later }
def BlockingOpensCardSaid : Prop := Claim7.holds Tryz.pinned (.plain (OpenSpec.ofChange blockingOpensSpec)) blockingOpensCard

/-- THE TIED CARD OF 'dowellaw21.BlockingVerifies'. -/
def blockingVerifiesCard : Claim7 := { stood := { row := blockingVerifiesRow, standIns := [], harness := (true, "1cf9b4eae10b8c8a0fd8aa50b6345969a822f1df874c704acd892da908a99b20"), looks := true }, kinds := [], alts := [], laidByText := true, laidKinds := [.data, .data, .data, .data, .sentinel, .sentinel, .pinned], laidTests := true, laidLooks := .later }
def BlockingVerifiesCardSaid : Prop := Claim7.holds Tryz.pinned (.plain (OpenSpec.ofChange blockingVerifiesSpec)) blockingVerifiesCard

/-- THE TIED CARD OF 'dowellaw21.BlockingArcs'. -/
def blockingArcsCard : Claim7 := { stood := { row := blockingArcsRow, standIns := [], harness := (true, "1cf9b4eae10b8c8a0fd8aa50b6345969a822f1df874c704acd892da908a99b20"), looks := true }, kinds := [], alts := [], laidByText := true, laidKinds := [.data, .data, .data, .data, .sentinel, .sentinel, .pinned], laidTests := true, laidLooks := .later }
def BlockingArcsCardSaid : Prop := Claim7.holds Tryz.pinned (.plain (OpenSpec.ofChange blockingArcsSpec)) blockingArcsCard

/-- THE TIED CARD OF 'dowellaw21.BlockingMoves'. -/
def blockingMovesCard : Claim7 := { stood := { row := blockingMovesRow, standIns := [], harness := (true, "1cf9b4eae10b8c8a0fd8aa50b6345969a822f1df874c704acd892da908a99b20"), looks := true }, kinds := [], alts := [], laidByText := true, laidKinds := [.data, .data, .data, .data, .sentinel, .sentinel, .pinned], laidTests := true, laidLooks := .later }
def BlockingMovesCardSaid : Prop := Claim7.holds Tryz.pinned (.plain (OpenSpec.ofChange blockingMovesSpec)) blockingMovesCard

/-- THE SECOND FORM's CARD OF 'dowellaw21.BlockingOpens'. -/
def blockingOpensUptoCard : Claim7 := { stood := { row := blockingOpensUptoRow, standIns := [], harness := (true, "1cf9b4eae10b8c8a0fd8aa50b6345969a822f1df874c704acd892da908a99b20"), looks := true }, kinds := [], alts := [], laidByText := true, laidKinds := [.data, .data, .data, .data, .sentinel, .sentinel, .pinned], laidTests := true, laidLooks := .later }
def BlockingOpensUptoCardSaid : Prop := Claim7.holds Tryz.pinned (.plain (OpenSpec.upto blockingOpensSpec)) blockingOpensUptoCard

/-- THE SECOND FORM's CARD OF 'dowellaw21.BlockingVerifies'. -/
def blockingVerifiesUptoCard : Claim7 := { stood := { row := blockingVerifiesUptoRow, standIns := [], harness := (true, "1cf9b4eae10b8c8a0fd8aa50b6345969a822f1df874c704acd892da908a99b20"), looks := true }, kinds := [], alts := [], laidByText := true, laidKinds := [.data, .data, .data, .data, .sentinel, .sentinel, .pinned], laidTests := true, laidLooks := .later }
def BlockingVerifiesUptoCardSaid : Prop := Claim7.holds Tryz.pinned (.plain (OpenSpec.upto blockingVerifiesSpec)) blockingVerifiesUptoCard

/-- THE SECOND FORM's CARD OF 'dowellaw21.BlockingArcs'. -/
def blockingArcsUptoCard : Claim7 := { stood := { row := blockingArcsUptoRow, standIns := [], harness := (true, "1cf9b4eae10b8c8a0fd8aa50b6345969a822f1df874c704acd892da908a99b20"), looks := true }, kinds := [], alts := [], laidByText := true, laidKinds := [.data, .data, .data, .data, .sentinel, .sentinel, .pinned], laidTests := true, laidLooks := .later }
def BlockingArcsUptoCardSaid : Prop := Claim7.holds Tryz.pinned (.plain (OpenSpec.upto blockingArcsSpec)) blockingArcsUptoCard

/-- THE SECOND FORM's CARD OF 'dowellaw21.BlockingMoves'. -/
def blockingMovesUptoCard : Claim7 := { stood := { row := blockingMovesUptoRow, standIns := [], harness := (true, "1cf9b4eae10b8c8a0fd8aa50b6345969a822f1df874c704acd892da908a99b20"), looks := true }, kinds := [], alts := [], laidByText := true, laidKinds := [.data, .data, .data, .data, .sentinel, .sentinel, .pinned], laidTests := true, laidLooks := .later }
def BlockingMovesUptoCardSaid : Prop := Claim7.holds Tryz.pinned (.plain (OpenSpec.upto blockingMovesSpec)) blockingMovesUptoCard
end Rows
end Go.Proofs.YtilmgbneiikbiaaGreatDoor
