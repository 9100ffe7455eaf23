/- A piece of the proof, made small by a program of ours. -/
import Derived.Test.YtilmgbneiikbiaaGreatDoorP32
set_option linter.all false
set_option maxRecDepth 1000000
set_option maxHeartbeats 0
namespace Go.Sy
noncomputable section
open Go.RowKit Go.Proofs Go.Proofs.Tryz
def ach:List (AV×AV):=[
 (.nil,(.bool true))]
theorem WX:cS prog OL 127 ach=true:=by decide+kernel
end
end Go.Sy
