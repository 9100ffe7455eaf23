/- Runs of dowel/cell.Place. -/
import Derived.Test.YtpbjekedjbjeeaaGreatDoorStO1
namespace Go.Sy
open Go.RowKit Go.Proofs
set_option linter.unusedVariables false
set_option maxRecDepth 1000000
set_option maxHeartbeats 0
noncomputable def stPl0 : List (AV × AV) := [
  ((.cons (bxo 0 0 0 1 1 1) (.cons stv10 .nil)), (bxo 0 0 0 1 1 1)),
  ((.cons (bxo 0 0 0 1 1 1) (.cons stv12 .nil)), (bxo 1 0 0 2 1 1)),
  ((.cons (bxo 0 0 0 1 1 1) (.cons stv14 .nil)), (bxo 2 0 0 3 1 1)),
  ((.cons (bxo 3 0 0 4 1 1) (.cons stv10 .nil)), (bxo 3 0 0 4 1 1)),
  ((.cons (bxo 0 0 0 1 1 1) (.cons stv24 .nil)), stv28),
  ((.cons (bxo 0 0 0 1 1 1) (.cons stv34 .nil)), (bxo 3 0 0 4 1 1))]
theorem stranPl0 : ranAll Tryz.prog stov2 122 stPl0 = true := by decide +kernel
end Go.Sy
