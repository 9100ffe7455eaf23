/- BlockingGraphs returns true for whatever slice of ints and whatever slice of arcs; its tied card. -/
import Derived.Test.YtpbjekedjbjeeaaGreatDoorSyEc
import Derived.Test.YtpbjekedjbjeeaaGreatDoorSyProofA
namespace Go.Proofs.YtpbjekedjbjeeaaGreatDoor
theorem card_holds : Rows.BlockingGraphsCardSaid := card_of fun _ ht _ _ _ _ h0 h1 => Sy.told_all ht h0 h1
#print axioms card_holds
end Go.Proofs.YtpbjekedjbjeeaaGreatDoor
