/- Runs of dowel/cell.Directions. -/
import Derived.Test.YtpbjekedjbjeeaaGreatDoorStO1
namespace Go.Sy
open Go.RowKit Go.Proofs
set_option linter.unusedVariables false
set_option maxRecDepth 1000000
set_option maxHeartbeats 0
noncomputable def stDi0 : List (AV × AV) := [
  ((.cons (bxo 1 0 0 2 1 1) .nil), (.ro 3 (qz [0, 0, 1, 0, 1, 0, 1, 0, 0] .nil))),
  ((.cons (bxo 0 0 0 1 1 1) .nil), (.ro 3 (qz [0, 0, 1, 0, 1, 0, 1, 0, 0] .nil))),
  ((.cons (bxo 2 0 0 3 1 1) .nil), (.ro 3 (qz [0, 0, 1, 0, 1, 0, 1, 0, 0] .nil))),
  ((.cons (bxo 3 0 0 4 1 1) .nil), (.ro 3 (qz [0, 0, 1, 0, 1, 0, 1, 0, 0] .nil))),
  ((.cons stv28 .nil), (.ro 3 (qz [0, 0, 1, 0, 1, 0, 1, 0, 0] .nil)))]
theorem stranDi0 : ranAll Tryz.prog stov2 221 stDi0 = true := by decide +kernel
end Go.Sy
