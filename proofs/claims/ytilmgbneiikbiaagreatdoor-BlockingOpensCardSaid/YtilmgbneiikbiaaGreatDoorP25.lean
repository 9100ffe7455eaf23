/- A piece of the proof, made small by a program of ours. -/
import Derived.Test.YtilmgbneiikbiaaGreatDoorRows
import Derived.Test.YtilmgbneiikbiaaGreatDoorTie
import Derived.Test.YtilmgbneiikbiaaGreatDoorCards
import Derived.WalkKit
import Derived.ProofKit
import Derived.LaidMore
import Derived.OpenShut
import Derived.Stop.Joined
import Derived.SevenTiedAt
import Derived.Lay
set_option linter.all false
set_option maxRecDepth 1000000
set_option maxHeartbeats 0
namespace Go.Proofs.YtilmgbneiikbiaaGreatDoor
open Go.ChangeShapes Go.WideShapes Go.ChangeAt Go.RowKit
theorem jI:(Rows.blockingOpensRow.inPlace==Tryz.checked.prog.inPlace 3)=true:=by kernel_rfl
theorem jU:(Rows.blockingOpensRow.unfollowed==Tryz.checked.prog.unfollowed 3)=true:=by kernel_rfl
theorem jR:(Rows.blockingOpensRow.recurses==Tryz.checked.prog.recurses 3)=true:=by kernel_rfl
theorem jN:(Rows.blockingOpensRow.named==Tryz.checked.prog.varsNamed 3)=true:=by kernel_rfl
theorem aaK:joinedFacts Tryz.checked.prog 3 Tryz.f3 Rows.blockingOpensSpec Rows.blockingOpensRow=true:=by
 unfold joinedFacts;rw [jI,jU,jR,jN]
 kernel_rfl
theorem CK {P:Program} (h:P.funcs.any Func.goes=false) (f:FuncId):P.goes f=false:=by
 have key:∀g:Nat,(P.funcs[g]?).any Func.goes=false:=by
  intro g;cases hg:P.funcs[g]? with
  |none=>rfl|some fn=>
   obtain⟨cR,he⟩:=Array.getElem?_eq_some_iff.1 hg;have h1:=(Array.any_eq_false.1 h) g cR;show Func.goes fn=false;rw [<-he];simpa using h1
 unfold Program.goes;rw [h,Bool.and_false,Bool.or_false];exact List.any_eq_false.2 λg _=>by simp [key g]
theorem WI {P:Program} (h:P.funcs.any Func.goes=false) (l:List FuncId):l.any P.goes=false:=by
 induction l with
 |nil=>rfl|cons f l ih=>rw [List.any_cons,CK h,ih];rfl
theorem Im {P:Program} (h:P.funcs.any Func.goes=false) (st:Start) (nm:String):P.goesAt st nm=false:=by
 unfold Program.goesAt Program.goesFrom;have h1:∀o:Option FuncId,o.any P.goes=false:=λo=>by cases o with|none=>rfl|some f=>exact CK h f
 rw [h1];cases st<;>first|rfl|(rw [WI h];rfl)
theorem gF:Tryz.checked.prog.funcs.any Func.goes=false:=by kernel_rfl
theorem ahq:false=Rows.blockingOpensRow.goesBy Tryz.checked.prog:=(Im gF _ _).symm
end Go.Proofs.YtilmgbneiikbiaaGreatDoor
