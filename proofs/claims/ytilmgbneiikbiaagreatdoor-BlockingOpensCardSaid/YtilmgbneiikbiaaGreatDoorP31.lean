/- A piece of the proof, made small by a program of ours. -/
import Derived.Test.YtilmgbneiikbiaaGreatDoorP30
set_option linter.all false
set_option maxRecDepth 1000000
set_option maxHeartbeats 0
namespace Go.Sy
noncomputable section
open Go.RowKit Go.Proofs Go.Proofs.Tryz
def OB:List (AV×AV):=aca
theorem aaR:∀e∈OB,@PF bZ prog 131 e.1 e.2/\DP e.1/\DP e.2:=
 cz af ae WQ (by decide) WR
def ahR:Dc prog:=Dc.sg 131 OB aaR (aw rfl rfl)
def acb:List (Dc prog):=ahR::ab8
def OD:eL ->AV ->Heap ->Option CR:=ovD (sL acb)
theorem An (B0:Nat):xw prog B0 OD:=ze ae _ B0
end
end Go.Sy
