/- Runs of dowel/cell.Volume. -/
import Derived.Test.YtpbjekedjbjeeaaGreatDoorStO1
namespace Go.Sy
open Go.RowKit Go.Proofs
set_option linter.unusedVariables false
set_option maxRecDepth 1000000
set_option maxHeartbeats 0
noncomputable def stVo0 : List (AV × AV) := [
  ((.cons (bxo 0 0 0 1 1 1) .nil), (.agg (qd [(1, 1)] .nil))),
  ((.cons (bxo 3 0 0 4 1 1) .nil), (.agg (qd [(1, 1)] .nil)))]
theorem stranVo0 : ranAll Tryz.prog stov2 188 stVo0 = true := by decide +kernel
end Go.Sy
/- Runs of dowel/cell.Centre. -/
namespace Go.Sy
open Go.RowKit Go.Proofs
set_option linter.unusedVariables false
set_option maxRecDepth 1000000
set_option maxHeartbeats 0
noncomputable def stCe0 : List (AV × AV) := [
  ((.cons (bxo 0 0 0 1 1 1) .nil), stv35),
  ((.cons (bxo 3 0 0 4 1 1) .nil), stv36)]
theorem stranCe0 : ranAll Tryz.prog stov2 187 stCe0 = true := by decide +kernel
end Go.Sy
