/- Runs of dowel/cell.Of. -/
import Derived.Test.YtpbjekedjbjeeaaGreatDoorStO0
namespace Go.Sy
open Go.RowKit Go.Proofs
set_option linter.unusedVariables false
set_option maxRecDepth 1000000
set_option maxHeartbeats 0
noncomputable def stOf0 : List (AV × AV) := [
  ((.cons (.agg (.cons (bxI 0 0 0 1 1 1) .nil)) .nil), (.tup (.cons (bxo 0 0 0 1 1 1) (.cons (.int .i64 0) .nil)))),
  ((.cons (.agg (.cons (bxI 3 0 0 4 1 1) .nil)) .nil), (.tup (.cons (bxo 3 0 0 4 1 1) (.cons (.int .i64 0) .nil))))]
theorem stranOf0 : ranAll Tryz.prog stov1 115 stOf0 = true := by decide +kernel
end Go.Sy
