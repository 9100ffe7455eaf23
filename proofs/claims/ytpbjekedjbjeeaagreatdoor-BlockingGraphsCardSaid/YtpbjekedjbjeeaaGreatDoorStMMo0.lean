/- Runs of dowel/rational.read. -/
import Derived.Test.YtpbjekedjbjeeaaGreatDoorStV0
namespace Go.Sy
open Go.RowKit Go.Proofs
set_option linter.unusedVariables false
set_option maxRecDepth 1000000
set_option maxHeartbeats 0
noncomputable def stRd0 : List (AV × AV) := [
  ((.cons (.str [48]) (.cons (.int .i64 400) .nil)), stv6),
  ((.cons (.str [49]) (.cons (.int .i64 400) .nil)), stv7),
  ((.cons (.str [50]) (.cons (.int .i64 400) .nil)), stv8),
  ((.cons (.str [50]) (.cons (.int .i64 65536) .nil)), stv8),
  ((.cons (.str [52]) (.cons (.int .i64 65536) .nil)), stv21),
  ((.cons (.str [49, 47, 50]) (.cons (.int .i64 400) .nil)), stv22),
  ((.cons (.str [51]) (.cons (.int .i64 400) .nil)), stv32)]
theorem stranRd0 : ranAll Tryz.prog ov0 158 stRd0 = true := by decide +kernel
end Go.Sy
/- Runs of (dowel/rational.Rat).Number. -/
namespace Go.Sy
open Go.RowKit Go.Proofs
set_option linter.unusedVariables false
set_option maxRecDepth 1000000
set_option maxHeartbeats 0
noncomputable def stNu0 : List (AV × AV) := [
  ((.cons (.agg (qz [0] .nil)) .nil), (.str [48])),
  ((.cons (.agg (qz [1] .nil)) .nil), (.str [49])),
  ((.cons (.agg (qz [2] .nil)) .nil), (.str [50])),
  ((.cons (.agg (qz [-1] .nil)) .nil), (.str [45, 49])),
  ((.cons (.agg (qd [(1, 1)] .nil)) .nil), (.str [49])),
  ((.cons (.agg (qd [(2, 1)] .nil)) .nil), (.str [50])),
  ((.cons (.agg (qd [(4, 1)] .nil)) .nil), (.str [52])),
  ((.cons (.agg (qd [(3, 1)] .nil)) .nil), (.str [51])),
  ((.cons (.agg (qd [(1, 2)] .nil)) .nil), (.str [49, 47, 50]))]
theorem stranNu0 : ranAll Tryz.prog ov0 33 stNu0 = true := by decide +kernel
end Go.Sy
/- Runs of dowel/vector.Primitive. -/
namespace Go.Sy
open Go.RowKit Go.Proofs
set_option linter.unusedVariables false
set_option maxRecDepth 1000000
set_option maxHeartbeats 0
noncomputable def stPr0 : List (AV × AV) := [
  ((.cons (.agg (qz [-1, 0, 0] .nil)) .nil), stv0),
  ((.cons (.agg (qz [0, 0, -1] .nil)) .nil), stv1),
  ((.cons (.agg (qz [0, -1, 0] .nil)) .nil), stv2),
  ((.cons (.agg (qz [0, 0, 1] .nil)) .nil), stv3),
  ((.cons (.agg (qz [0, 1, 0] .nil)) .nil), stv4),
  ((.cons (.agg (qz [1, 0, 0] .nil)) .nil), stv5),
  ((.cons (.agg (qz [0, 0, 0] .nil)) .nil), stv15),
  ((.cons stv29 .nil), stv3),
  ((.cons stv30 .nil), stv4),
  ((.cons stv31 .nil), stv5)]
theorem stranPr0 : ranAll Tryz.prog ov0 161 stPr0 = true := by decide +kernel
end Go.Sy
/- Runs of dowel/motion.Of. -/
namespace Go.Sy
open Go.RowKit Go.Proofs
set_option linter.unusedVariables false
set_option maxRecDepth 1000000
set_option maxHeartbeats 0
noncomputable def stMo0 : List (AV × AV) := [
  ((.cons stv9 .nil), (.tup (.cons stv10 (.cons (.int .i64 0) .nil)))),
  ((.cons stv11 .nil), (.tup (.cons stv12 (.cons (.int .i64 0) .nil)))),
  ((.cons stv13 .nil), (.tup (.cons stv14 (.cons (.int .i64 0) .nil)))),
  ((.cons stv23 .nil), (.tup (.cons stv24 (.cons (.int .i64 0) .nil)))),
  ((.cons stv33 .nil), (.tup (.cons stv34 (.cons (.int .i64 0) .nil))))]
theorem stranMo0 : ranAll Tryz.prog ov0 70 stMo0 = true := by decide +kernel
end Go.Sy
