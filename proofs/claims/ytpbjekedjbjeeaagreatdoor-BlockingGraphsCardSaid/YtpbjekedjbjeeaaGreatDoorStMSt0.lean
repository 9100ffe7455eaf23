/- Runs of dowel/meeting.Status. -/
import Derived.Test.YtpbjekedjbjeeaaGreatDoorStAx4
namespace Go.Sy
open Go.RowKit Go.Proofs
set_option linter.unusedVariables false
set_option maxRecDepth 1000000
set_option maxHeartbeats 0
noncomputable def stSt0 : List (AV × AV) := [
  ((.cons (bxo 0 0 0 1 1 1) (.cons (bxo 1 0 0 2 1 1) .nil)), (.int .i64 2)),
  ((.cons (bxo 0 0 0 1 1 1) (.cons (bxo 2 0 0 3 1 1) .nil)), (.int .i64 1)),
  ((.cons (bxo 1 0 0 2 1 1) (.cons (bxo 2 0 0 3 1 1) .nil)), (.int .i64 2)),
  ((.cons (bxo 0 0 0 1 1 1) (.cons stv28 .nil)), (.int .i64 3)),
  ((.cons (bxo 0 0 0 1 1 1) (.cons (bxo 3 0 0 4 1 1) .nil)), (.int .i64 1))]
theorem stranSt0 : ranAll Tryz.prog stovA 144 stSt0 = true := by decide +kernel
end Go.Sy
