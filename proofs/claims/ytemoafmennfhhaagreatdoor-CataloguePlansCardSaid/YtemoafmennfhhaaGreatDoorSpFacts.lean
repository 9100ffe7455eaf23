/- CataloguePlans: what the row tells of the program's text. -/
import Derived.Test.YtemoafmennfhhaaGreatDoorSpFa0
import Derived.Test.YtemoafmennfhhaaGreatDoorSpFa1
import Derived.Test.YtemoafmennfhhaaGreatDoorRows
import Derived.Test.YtemoafmennfhhaaGreatDoorSpTie
import Derived.Test.YtemoafmennfhhaaGreatDoorCards
import Derived.WalkKit
import Derived.ProofKit
import Derived.LaidMore
import Derived.OpenShut
import Derived.Stop.Joined
import Derived.SevenTiedAt
import Derived.Lay
namespace Go.Proofs.YtemoafmennfhhaaGreatDoor
open Go.ChangeShapes Go.WideShapes Go.ChangeAt Go.RowKit
theorem joined1 : joinedFacts Tryz.checked.prog 3 Tryz.f3 Rows.cataloguePlansSpec Rows.cataloguePlansRow = true:=by
  unfold joinedFacts
  rw [jI,jU,jR,jN,jW,jL,jM,jT,jH,jE,jF,jK,jP,jS,jB]
  kernel_rfl
theorem goes_none {P : Program} (h : P.funcs.any Func.goes = false) (f : FuncId) : P.goes f = false:=by
  have key : ∀ g : Nat,(P.funcs[g]?).any Func.goes = false:=by
    intro g
    cases hg : P.funcs[g]? with
    | none=>rfl
    | some fn =>
      obtain ⟨hlt,he⟩:=Array.getElem?_eq_some_iff.1 hg
      have h1:=(Array.any_eq_false.1 h) g hlt
      show Func.goes fn = false
      rw [← he]
      simpa using h1
  unfold Program.goes
  rw [h,Bool.and_false,Bool.or_false]
  exact List.any_eq_false.2 fun g _=>by simp [key g]
theorem goes_all {P : Program} (h : P.funcs.any Func.goes = false) (l : List FuncId) : l.any P.goes = false:=by
  induction l with
  | nil=>rfl
  | cons f l ih=>rw [List.any_cons,goes_none h,ih]; rfl
theorem goesAt_none {P : Program} (h : P.funcs.any Func.goes = false) (st : Start) (nm : String) : P.goesAt st nm = false:=by
  unfold Program.goesAt Program.goesFrom
  have h1 : ∀ o : Option FuncId,o.any P.goes = false:=fun o=>by cases o with | none=>rfl | some f=>exact goes_none h f
  rw [h1]
  cases st <;> first | rfl | (rw [goes_all h]; rfl)
theorem gF : Tryz.checked.prog.funcs.any Func.goes = false:=by kernel_rfl
theorem goes1 : false = Rows.cataloguePlansRow.goesBy Tryz.checked.prog:=(goesAt_none gF _ _).symm
end Go.Proofs.YtemoafmennfhhaaGreatDoor
