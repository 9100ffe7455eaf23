/- Runs of dowel/dowellaw21.known. -/
import Derived.Test.YtpbjekedjbjeeaaGreatDoorStO4
namespace Go.Sy
open Go.RowKit Go.Proofs
set_option linter.unusedVariables false
set_option maxRecDepth 1000000
set_option maxHeartbeats 0
noncomputable def stKc0 : List (AV × AV) := [
  (.nil, (.bool true))]
theorem stranKc0 : ranAll Tryz.prog stov5 8 stKc0 = true := by decide +kernel
end Go.Sy
