/-
  DERIVED. GIVEN WITH THE SEED: THE CARDS: each row of YtemoafmennfhhaaGreatDoorRows.lean that lists a variable, with what it lists TIED to the program's text (the seventh form; the later family's looks); each row that meets fmt, with fmt's text TOLD by the authors' own Lean function (tested against real Go, not proved from fmt's source: count such statements apart). THE CARD IS WHAT COUNTS. Prove the row's statement (the work); the ties are given (YtemoafmennfhhaaGreatDoorTie.lean); close each card by the builder's one call (the guide's Derived/Test/ToyasCard.lean, 'card_holds'). Laid BY PROGRAM, IN A SANDBOX (cutbox-door.mjs). By AI agents, Wed Nov 11 2026. No macro, syntax, notation, axiom, sorry.
-/
import Derived.Test.YtemoafmennfhhaaGreatDoorRows
import GoSem.ClaimSeven
namespace Go.Proofs.YtemoafmennfhhaaGreatDoor
namespace Rows

/-- THE TIED CARD OF 'dowellaw55.CataloguePlans'. -/
def cataloguePlansCard : Claim7 := { stood := { row := cataloguePlansRow, standIns := [], harness := (true, "de7fdef10c892ae553cbfe950e6fc7bc072a1d0925339b9510536e0b2725994c"), looks := true }, kinds := [], alts := [], laidByText := true, laidKinds := [.data, .data, .data, .pinned, .data, .sentinel, .sentinel], laidTests := true, laidLooks := .later }
def CataloguePlansCardSaid : Prop := Claim7.holds Tryz.pinned (.plain (OpenSpec.ofChange cataloguePlansSpec)) cataloguePlansCard

/-- THE SECOND FORM's CARD OF 'dowellaw55.CataloguePlans'. -/
def cataloguePlansUptoCard : Claim7 := { stood := { row := cataloguePlansUptoRow, standIns := [], harness := (true, "de7fdef10c892ae553cbfe950e6fc7bc072a1d0925339b9510536e0b2725994c"), looks := true }, kinds := [], alts := [], laidByText := true, laidKinds := [.data, .data, .data, .pinned, .data, .sentinel, .sentinel], laidTests := true, laidLooks := .later }
def CataloguePlansUptoCardSaid : Prop := Claim7.holds Tryz.pinned (.plain (OpenSpec.upto cataloguePlansSpec)) cataloguePlansUptoCard
end Rows
end Go.Proofs.YtemoafmennfhhaaGreatDoor
