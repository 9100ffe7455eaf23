/- Runs of dowel/meeting.Interval. -/
import Derived.Test.YtpbjekedjbjeeaaGreatDoorStAx4
namespace Go.Sy
open Go.RowKit Go.Proofs
set_option linter.unusedVariables false
set_option maxRecDepth 1000000
set_option maxHeartbeats 0
noncomputable def stIn0 : List (AV × AV) := [
  ((.cons (bxo 0 0 0 1 1 1) (.cons (bxo 1 0 0 2 1 1) (.cons (.agg (qz [1, 0, 0] .nil)) .nil))), stv16),
  ((.cons (bxo 0 0 0 1 1 1) (.cons (bxo 2 0 0 3 1 1) (.cons (.agg (qz [1, 0, 0] .nil)) .nil))), stv17)]
theorem stranIn0 : ranAll Tryz.prog stovA 125 stIn0 = true := by decide +kernel
noncomputable def stIn1 : List (AV × AV) := [
  ((.cons (bxo 1 0 0 2 1 1) (.cons (bxo 0 0 0 1 1 1) (.cons (.agg (qz [1, 0, 0] .nil)) .nil))), stv18),
  ((.cons (bxo 1 0 0 2 1 1) (.cons (bxo 2 0 0 3 1 1) (.cons (.agg (qz [1, 0, 0] .nil)) .nil))), stv16)]
theorem stranIn1 : ranAll Tryz.prog stovA 125 stIn1 = true := by decide +kernel
noncomputable def stIn2 : List (AV × AV) := [
  ((.cons (bxo 2 0 0 3 1 1) (.cons (bxo 0 0 0 1 1 1) (.cons (.agg (qz [1, 0, 0] .nil)) .nil))), stv19),
  ((.cons (bxo 2 0 0 3 1 1) (.cons (bxo 1 0 0 2 1 1) (.cons (.agg (qz [1, 0, 0] .nil)) .nil))), stv18)]
theorem stranIn2 : ranAll Tryz.prog stovA 125 stIn2 = true := by decide +kernel
noncomputable def stIn3 : List (AV × AV) := [
  ((.cons (bxo 0 0 0 1 1 1) (.cons (bxo 3 0 0 4 1 1) (.cons (.agg (qz [1, 0, 0] .nil)) .nil))), stv20)]
theorem stranIn3 : ranAll Tryz.prog stovA 125 stIn3 = true := by decide +kernel
end Go.Sy
