/- Runs of dowel/rational.read. -/
import Derived.Test.YthdjljdooekbmaaGreatDoorSmV1
namespace Go.Sy
open Go.RowKit Go.Proofs
set_option linter.unusedVariables false
set_option maxRecDepth 1000000
set_option maxHeartbeats 0
noncomputable def smRd0 : List (AV × AV) := [
  ((.cons (.str [48]) (.cons (.int .i64 400) .nil)), smv78),
  ((.cons (.str [49]) (.cons (.int .i64 400) .nil)), smv79),
  ((.cons (.str [49, 49, 57, 57, 48]) (.cons (.int .i64 400) .nil)), smv80),
  ((.cons (.str [49, 50, 48, 50, 48]) (.cons (.int .i64 400) .nil)), smv81),
  ((.cons (.str [50, 57, 57, 52]) (.cons (.int .i64 400) .nil)), smv142),
  ((.cons (.str [51, 48, 49, 50]) (.cons (.int .i64 400) .nil)), smv143),
  ((.cons (.str [57, 57, 57]) (.cons (.int .i64 400) .nil)), smv170),
  ((.cons (.str [49, 48, 48, 50]) (.cons (.int .i64 400) .nil)), smv171),
  ((.cons (.str [51, 57, 57, 57]) (.cons (.int .i64 400) .nil)), smv202),
  ((.cons (.str [52, 48, 48, 50]) (.cons (.int .i64 400) .nil)), smv203)]
theorem smranRd0 : ranAll Tryz.prog ov0 118 smRd0 = true := by decide +kernel
noncomputable def smRd1 : List (AV × AV) := [
  ((.cons (.str [49, 57, 57, 57]) (.cons (.int .i64 400) .nil)), smv230),
  ((.cons (.str [50, 48, 48, 50]) (.cons (.int .i64 400) .nil)), smv231),
  ((.cons (.str [55, 57, 57, 48]) (.cons (.int .i64 400) .nil)), smv302),
  ((.cons (.str [56, 48, 50, 48]) (.cons (.int .i64 400) .nil)), smv303),
  ((.cons (.str [49, 57, 57, 55]) (.cons (.int .i64 400) .nil)), smv334),
  ((.cons (.str [50, 48, 48, 54]) (.cons (.int .i64 400) .nil)), smv335),
  ((.cons (.str [55, 57, 57, 55]) (.cons (.int .i64 400) .nil)), smv382),
  ((.cons (.str [56, 48, 48, 54]) (.cons (.int .i64 400) .nil)), smv383),
  ((.cons (.str [51, 57, 57, 55]) (.cons (.int .i64 400) .nil)), smv392),
  ((.cons (.str [52, 48, 48, 54]) (.cons (.int .i64 400) .nil)), smv393)]
theorem smranRd1 : ranAll Tryz.prog ov0 118 smRd1 = true := by decide +kernel
noncomputable def smRd2 : List (AV × AV) := [
  ((.cons (.str [50, 57, 57, 57]) (.cons (.int .i64 400) .nil)), smv424),
  ((.cons (.str [51, 48, 48, 50]) (.cons (.int .i64 400) .nil)), smv425),
  ((.cons (.str [53, 57, 57, 52]) (.cons (.int .i64 400) .nil)), smv464),
  ((.cons (.str [54, 48, 49, 50]) (.cons (.int .i64 400) .nil)), smv465),
  ((.cons (.str [53, 57, 57, 55]) (.cons (.int .i64 400) .nil)), smv498),
  ((.cons (.str [54, 48, 48, 54]) (.cons (.int .i64 400) .nil)), smv499),
  ((.cons (.str [56, 57, 57, 52]) (.cons (.int .i64 400) .nil)), smv500),
  ((.cons (.str [57, 48, 49, 50]) (.cons (.int .i64 400) .nil)), smv501),
  ((.cons (.str [51, 57, 57, 48]) (.cons (.int .i64 400) .nil)), smv566),
  ((.cons (.str [52, 48, 50, 48]) (.cons (.int .i64 400) .nil)), smv567)]
theorem smranRd2 : ranAll Tryz.prog ov0 118 smRd2 = true := by decide +kernel
noncomputable def smRd3 : List (AV × AV) := [
  ((.cons (.str [49, 49, 57, 57, 52]) (.cons (.int .i64 400) .nil)), smv640),
  ((.cons (.str [49, 50, 48, 49, 50]) (.cons (.int .i64 400) .nil)), smv641),
  ((.cons (.str [53, 57, 55, 57]) (.cons (.int .i64 400) .nil)), smv834),
  ((.cons (.str [54, 48, 52, 50]) (.cons (.int .i64 400) .nil)), smv835),
  ((.cons (.str [49, 57, 57, 56, 53]) (.cons (.int .i64 400) .nil)), smv876),
  ((.cons (.str [50, 48, 48, 51, 48]) (.cons (.int .i64 400) .nil)), smv877),
  ((.cons (.str [50, 51, 57, 55, 57]) (.cons (.int .i64 400) .nil)), smv1018),
  ((.cons (.str [50, 52, 48, 52, 50]) (.cons (.int .i64 400) .nil)), smv1019),
  ((.cons (.str [49, 53, 57, 57, 48]) (.cons (.int .i64 400) .nil)), smv1150),
  ((.cons (.str [49, 54, 48, 50, 48]) (.cons (.int .i64 400) .nil)), smv1151)]
theorem smranRd3 : ranAll Tryz.prog ov0 118 smRd3 = true := by decide +kernel
noncomputable def smRd4 : List (AV × AV) := [
  ((.cons (.str [52, 57, 56, 53]) (.cons (.int .i64 400) .nil)), smv1152),
  ((.cons (.str [53, 48, 51, 48]) (.cons (.int .i64 400) .nil)), smv1153),
  ((.cons (.str [49, 55, 57, 55, 57]) (.cons (.int .i64 400) .nil)), smv1260),
  ((.cons (.str [49, 56, 48, 52, 50]) (.cons (.int .i64 400) .nil)), smv1261),
  ((.cons (.str [57, 57, 56, 53]) (.cons (.int .i64 400) .nil)), smv1292),
  ((.cons (.str [49, 48, 48, 51, 48]) (.cons (.int .i64 400) .nil)), smv1293),
  ((.cons (.str [49, 52, 57, 56, 53]) (.cons (.int .i64 400) .nil)), smv1488),
  ((.cons (.str [49, 53, 48, 51, 48]) (.cons (.int .i64 400) .nil)), smv1489),
  ((.cons (.str [49, 49, 57, 55, 57]) (.cons (.int .i64 400) .nil)), smv1494),
  ((.cons (.str [49, 50, 48, 52, 50]) (.cons (.int .i64 400) .nil)), smv1495)]
theorem smranRd4 : ranAll Tryz.prog ov0 118 smRd4 = true := by decide +kernel
end Go.Sy
