/- Runs of dowel/cell.rings. -/
import Derived.Test.YtpbjekedjbjeeaaGreatDoorStV0
namespace Go.Sy
open Go.RowKit Go.Proofs
set_option linter.unusedVariables false
set_option maxRecDepth 1000000
set_option maxHeartbeats 0
noncomputable def stRi0 : List (AV × AV) := [
  ((.cons (bxI 0 0 0 1 1 1) .nil), (bxR 0 0 0 1 1 1)),
  ((.cons (bxI 3 0 0 4 1 1) .nil), (bxR 3 0 0 4 1 1))]
theorem stranRi0 : ranAll Tryz.prog ov0 160 stRi0 = true := by decide +kernel
end Go.Sy
