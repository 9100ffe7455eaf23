/- CatalogueTouches: what the row tells of the program's text, a fact a declaration (for memory's sake). -/
import Derived.Test.YtialjngnlekplaaGreatDoorRows
import Derived.Test.YtialjngnlekplaaGreatDoorTie
import Derived.Test.YtialjngnlekplaaGreatDoorCards
import Derived.WalkKit
import Derived.ProofKit
import Derived.LaidMore
import Derived.OpenShut
import Derived.Stop.Joined
import Derived.SevenTiedAt
import Derived.Lay
namespace Go.Proofs.YtialjngnlekplaaGreatDoor
open Go.ChangeShapes Go.WideShapes Go.ChangeAt Go.RowKit
theorem jI : (Rows.catalogueTouchesRow.inPlace == Tryz.checked.prog.inPlace 3) = true := by kernel_rfl
theorem jU : (Rows.catalogueTouchesRow.unfollowed == Tryz.checked.prog.unfollowed 3) = true := by kernel_rfl
theorem jR : (Rows.catalogueTouchesRow.recurses == Tryz.checked.prog.recurses 3) = true := by kernel_rfl
theorem jN : (Rows.catalogueTouchesRow.named == Tryz.checked.prog.varsNamed 3) = true := by kernel_rfl
theorem joined1 : joinedFacts Tryz.checked.prog 3 Tryz.f3 Rows.catalogueTouchesSpec Rows.catalogueTouchesRow = true := by
  unfold joinedFacts
  rw [jI, jU, jR, jN]
  kernel_rfl
theorem goes1 : false = Rows.catalogueTouchesRow.goesBy Tryz.checked.prog := by kernel_rfl
end Go.Proofs.YtialjngnlekplaaGreatDoor
