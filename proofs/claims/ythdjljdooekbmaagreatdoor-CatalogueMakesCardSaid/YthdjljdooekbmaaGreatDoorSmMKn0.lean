/- Runs of dowel/dowellaw55.known. -/
import Derived.Test.YthdjljdooekbmaaGreatDoorSmV1
namespace Go.Sy
open Go.RowKit Go.Proofs
set_option linter.unusedVariables false
set_option maxRecDepth 1000000
set_option maxHeartbeats 0
noncomputable def smKn0 : List (AV × AV) := [
  (.nil, (.bool true))]
theorem smranKn0 : ranAll Tryz.prog ov0 4 smKn0 = true := by decide +kernel
end Go.Sy
