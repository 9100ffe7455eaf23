/- CataloguePlans: what the row tells of the functions that are reached. -/
import Derived.Test.YtemoafmennfhhaaGreatDoorRows
import Derived.Test.YtemoafmennfhhaaGreatDoorSpTie
import Derived.Test.YtemoafmennfhhaaGreatDoorCards
import Derived.WalkKit
import Derived.ProofKit
import Derived.LaidMore
import Derived.OpenShut
import Derived.Stop.Joined
import Derived.SevenTiedAt
import Derived.Lay
namespace Go.Proofs.YtemoafmennfhhaaGreatDoor
open Go.ChangeShapes Go.WideShapes Go.ChangeAt Go.RowKit
theorem jI : (Rows.cataloguePlansRow.inPlace == Tryz.checked.prog.inPlace 3) = true:=by kernel_rfl
theorem jU : (Rows.cataloguePlansRow.unfollowed == Tryz.checked.prog.unfollowed 3) = true:=by kernel_rfl
theorem jR : (Rows.cataloguePlansRow.recurses == Tryz.checked.prog.recurses 3) = true:=by kernel_rfl
theorem jN : (Rows.cataloguePlansRow.named == Tryz.checked.prog.varsNamed 3) = true:=by kernel_rfl
end Go.Proofs.YtemoafmennfhhaaGreatDoor
