/- Runs of dowel/dowellaw15.known. -/
import Derived.Test.YtpbjekedjbjeeaaGreatDoorStO4
namespace Go.Sy
open Go.RowKit Go.Proofs
set_option linter.unusedVariables false
set_option maxRecDepth 1000000
set_option maxHeartbeats 0
noncomputable def stKa0 : List (AV × AV) := [
  (.nil, (.bool true))]
theorem stranKa0 : ranAll Tryz.prog stov5 46 stKa0 = true := by decide +kernel
end Go.Sy
