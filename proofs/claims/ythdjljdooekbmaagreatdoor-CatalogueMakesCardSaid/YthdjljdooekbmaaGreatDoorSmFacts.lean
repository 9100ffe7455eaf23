/- CatalogueMakes: what the row tells of the program's text, a fact a declaration (for memory's sake). -/
import Derived.Test.YthdjljdooekbmaaGreatDoorRows
import Derived.Test.YthdjljdooekbmaaGreatDoorTie
import Derived.Test.YthdjljdooekbmaaGreatDoorCards
import Derived.WalkKit
import Derived.ProofKit
import Derived.LaidMore
import Derived.OpenShut
import Derived.Stop.Joined
import Derived.SevenTiedAt
import Derived.Lay
namespace Go.Proofs.YthdjljdooekbmaaGreatDoor
open Go.ChangeShapes Go.WideShapes Go.ChangeAt Go.RowKit
theorem jI : (Rows.catalogueMakesRow.inPlace == Tryz.checked.prog.inPlace 3) = true := by kernel_rfl
theorem jU : (Rows.catalogueMakesRow.unfollowed == Tryz.checked.prog.unfollowed 3) = true := by kernel_rfl
theorem jR : (Rows.catalogueMakesRow.recurses == Tryz.checked.prog.recurses 3) = true := by kernel_rfl
theorem jN : (Rows.catalogueMakesRow.named == Tryz.checked.prog.varsNamed 3) = true := by kernel_rfl
theorem joined1 : joinedFacts Tryz.checked.prog 3 Tryz.f3 Rows.catalogueMakesSpec Rows.catalogueMakesRow = true := by
  unfold joinedFacts
  rw [jI, jU, jR, jN]
  kernel_rfl
theorem goes1 : false = Rows.catalogueMakesRow.goesBy Tryz.checked.prog := by kernel_rfl
end Go.Proofs.YthdjljdooekbmaaGreatDoor
