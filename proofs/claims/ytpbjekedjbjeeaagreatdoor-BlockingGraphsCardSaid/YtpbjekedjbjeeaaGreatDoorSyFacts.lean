/- BlockingGraphs: what the row tells of the program's text, a fact a declaration (for memory's sake). -/
import Derived.Test.YtpbjekedjbjeeaaGreatDoorRows
import Derived.Test.YtpbjekedjbjeeaaGreatDoorTie
import Derived.Test.YtpbjekedjbjeeaaGreatDoorCards
import Derived.WalkKit
import Derived.ProofKit
import Derived.LaidMore
import Derived.OpenShut
import Derived.Stop.Joined
import Derived.SevenTiedAt
import Derived.Lay
namespace Go.Proofs.YtpbjekedjbjeeaaGreatDoor
open Go.ChangeShapes Go.WideShapes Go.ChangeAt Go.RowKit
theorem jI : (Rows.blockingGraphsRow.inPlace == Tryz.checked.prog.inPlace 3) = true := by kernel_rfl
theorem jU : (Rows.blockingGraphsRow.unfollowed == Tryz.checked.prog.unfollowed 3) = true := by kernel_rfl
theorem jR : (Rows.blockingGraphsRow.recurses == Tryz.checked.prog.recurses 3) = true := by kernel_rfl
theorem jN : (Rows.blockingGraphsRow.named == Tryz.checked.prog.varsNamed 3) = true := by kernel_rfl
theorem joined1 : joinedFacts Tryz.checked.prog 3 Tryz.f3 Rows.blockingGraphsSpec Rows.blockingGraphsRow = true := by
  unfold joinedFacts
  rw [jI, jU, jR, jN]
  kernel_rfl
theorem goes_none {P : Program} (h : P.funcs.any Func.goes = false) (f : FuncId) : P.goes f = false := by
  have key : ∀ g : Nat, (P.funcs[g]?).any Func.goes = false := by
    intro g
    cases hg : P.funcs[g]? with
    | none => rfl
    | some fn =>
      obtain ⟨hlt, he⟩ := Array.getElem?_eq_some_iff.1 hg
      have h1 := (Array.any_eq_false.1 h) g hlt
      show Func.goes fn = false
      rw [← he]
      simpa using h1
  unfold Program.goes
  rw [h, Bool.and_false, Bool.or_false]
  exact List.any_eq_false.2 fun g _ => by simp [key g]
theorem goes_all {P : Program} (h : P.funcs.any Func.goes = false) (l : List FuncId) : l.any P.goes = false := by
  induction l with
  | nil => rfl
  | cons f l ih => rw [List.any_cons, goes_none h, ih]; rfl
theorem goesAt_none {P : Program} (h : P.funcs.any Func.goes = false) (st : Start) (nm : String) : P.goesAt st nm = false := by
  unfold Program.goesAt Program.goesFrom
  have h1 : ∀ o : Option FuncId, o.any P.goes = false := fun o => by cases o with | none => rfl | some f => exact goes_none h f
  rw [h1]
  cases st <;> first | rfl | (rw [goes_all h]; rfl)
theorem gF : Tryz.checked.prog.funcs.any Func.goes = false := by kernel_rfl
theorem goes1 : false = Rows.blockingGraphsRow.goesBy Tryz.checked.prog := (goesAt_none gF _ _).symm
end Go.Proofs.YtpbjekedjbjeeaaGreatDoor
