/- Runs of dowel/dowellaw13.known. -/
import Derived.Test.YtpbjekedjbjeeaaGreatDoorStO4
namespace Go.Sy
open Go.RowKit Go.Proofs
set_option linter.unusedVariables false
set_option maxRecDepth 1000000
set_option maxHeartbeats 0
noncomputable def stKb0 : List (AV × AV) := [
  (.nil, (.bool true))]
theorem stranKb0 : ranAll Tryz.prog stov5 21 stKb0 = true := by decide +kernel
end Go.Sy
