/- CataloguePlans: what the row tells of the whole program. -/
import Derived.Test.YtemoafmennfhhaaGreatDoorRows
import Derived.Test.YtemoafmennfhhaaGreatDoorSpTie
import Derived.Test.YtemoafmennfhhaaGreatDoorCards
import Derived.WalkKit
import Derived.ProofKit
import Derived.LaidMore
import Derived.OpenShut
import Derived.Stop.Joined
import Derived.SevenTiedAt
import Derived.Lay
namespace Go.Proofs.YtemoafmennfhhaaGreatDoor
open Go.ChangeShapes Go.WideShapes Go.ChangeAt Go.RowKit
theorem jW : Rows.cataloguePlansRow.wf (OpenSpec.ofChange Rows.cataloguePlansSpec) = true:=by kernel_rfl
theorem jL : laidOutB Tryz.checked.prog = true:=by kernel_rfl
theorem jM : mapsRowed Tryz.checked.prog = true:=by kernel_rfl
theorem jT : namedTie Tryz.checked.prog Rows.cataloguePlansRow.named Rows.cataloguePlansSpec.vars = true:=by kernel_rfl
theorem jH : Tryz.checked.prog.stopsHeard = true:=by kernel_rfl
theorem jE : Tryz.checked.prog.mayEnter = true:=by kernel_rfl
theorem jF : (Rows.cataloguePlansRow.lifted == Tryz.checked.prog.liftsFinal) = true:=by kernel_rfl
theorem jK : (Tryz.checked.prog.make == some Rows.cataloguePlansRow.make) = true:=by kernel_rfl
theorem jP : (Rows.cataloguePlansRow.plainKeys == Tryz.checked.prog.plainKeys) = true:=by kernel_rfl
theorem jS : (Tryz.checked.prog.stops == []) = true:=by kernel_rfl
theorem jB : (Tryz.checked.prog.stopKnobs == []) = true:=by kernel_rfl
end Go.Proofs.YtemoafmennfhhaaGreatDoor
