/- A piece of the proof, made small by a program of ours. -/
import Derived.Test.YtilmgbneiikbiaaGreatDoorP20
import Derived.Test.YtilmgbneiikbiaaGreatDoorP21
set_option linter.all false
set_option maxRecDepth 1000000
set_option maxHeartbeats 0
namespace Go.Sy
noncomputable section
open Go.RowKit Go.Proofs Go.Proofs.Tryz
def eX:Q3:=((1,0),(0,0),(0,0))
def eY:Q3:=((0,0),(1,0),(0,0))
def eZ:Q3:=((0,0),(0,0),(1,0))
def qeB (p q:Q):Bool:=decide (p.1=q.1) &&decide (Q.dn p=Q.dn q)
def Wa (a b:Q3):Bool:=qeB a.1 b.1 &&(qeB a.2.1 b.2.1 &&qeB a.2.2 b.2.2)
theorem Lo {p q:Q} (h:qeB p q=true):Qe p q:=by
 unfold qeB at h;rw [Bool.and_eq_true]at h;exact⟨of_decide_eq_true h.1,of_decide_eq_true h.2⟩
theorem EY {a b:Q3} (h:Wa a b=true):sX a b:=by
 unfold Wa at h;rw [Bool.and_eq_true,Bool.and_eq_true]at h;exact⟨Lo h.1,Lo h.2.1,Lo h.2.2⟩
def axB (l:List Q3):Bool:=l.any (Wa eX) &&(l.any (Wa eY) &&l.any (Wa eZ))
theorem aeQ:∀r∈([0,1,2,3,4,5]:List Int),∀x∈([1,2,3]:List Int),∀y∈([1,2,3]:List Int),∀z∈([1,2,3]:List Int),axB (dw (bX (bas r x y z)))=true:=by decide+kernel
end
end Go.Sy
