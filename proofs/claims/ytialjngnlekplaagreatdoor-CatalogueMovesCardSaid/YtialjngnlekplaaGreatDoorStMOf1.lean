/- Runs of dowel/cell.Of. -/
import Derived.Test.YtialjngnlekplaaGreatDoorStO0
namespace Go.Sy
open Go.RowKit Go.Proofs
set_option linter.unusedVariables false
set_option maxRecDepth 1000000
set_option maxHeartbeats 0
noncomputable def stOf16 : List (AV × AV) := [
  ((.cons (.agg (.cons (bxI 2 2 2 8 4 4) .nil)) .nil), (.tup (.cons (bxi 2 2 2 8 4 4) (.cons (.int .i64 0) .nil)))),
  ((.cons (.agg (.cons (bxI 4 2 4 6 4 8) .nil)) .nil), (.tup (.cons (bxi 4 2 4 6 4 8) (.cons (.int .i64 0) .nil)))),
  ((.cons (.agg (.cons (bxI 0 1 0 1 2 1) .nil)) .nil), (.tup (.cons (bxo 0 1 0 1 2 1) (.cons (.int .i64 0) .nil)))),
  ((.cons (.agg (.cons (bxI 2 1 0 3 2 1) .nil)) .nil), (.tup (.cons (bxo 2 1 0 3 2 1) (.cons (.int .i64 0) .nil)))),
  ((.cons (.agg (.cons (bxI 0 0 0 3 1 1) .nil)) .nil), stv101)]
theorem stranOf16 : ranAll Tryz.prog stov1 175 stOf16 = true := by decide +kernel
noncomputable def stOf17 : List (AV × AV) := [
  ((.cons (.agg (.cons (bxI 0 2 0 3 3 1) .nil)) .nil), stv102),
  ((.cons stv103 .nil), stv104),
  ((.cons (.agg (.cons (bxI 0 0 0 3 3 3) .nil)) .nil), (.tup (.cons (bxi 0 0 0 3 3 3) (.cons (.int .i64 0) .nil)))),
  ((.cons (.agg (.cons (bxI 0 0 3 3 3 6) .nil)) .nil), (.tup (.cons (bxi 0 0 3 3 3 6) (.cons (.int .i64 0) .nil)))),
  ((.cons (.agg (.cons (bxI 0 0 6 3 3 9) .nil)) .nil), (.tup (.cons (bxi 0 0 6 3 3 9) (.cons (.int .i64 0) .nil))))]
theorem stranOf17 : ranAll Tryz.prog stov1 175 stOf17 = true := by decide +kernel
noncomputable def stOf18 : List (AV × AV) := [
  ((.cons (.agg (.cons (bxI 0 0 9 3 3 12) .nil)) .nil), stv106),
  ((.cons (.agg (.cons (bxI 0 0 12 3 3 15) .nil)) .nil), stv107),
  ((.cons (.agg (.cons (bxI 0 0 15 3 3 18) .nil)) .nil), stv108),
  ((.cons (.agg (.cons (bxI 0 4 0 4 8 4) .nil)) .nil), (.tup (.cons (bxi 0 4 0 4 8 4) (.cons (.int .i64 0) .nil)))),
  ((.cons (.agg (.cons (bxI 8 4 0 12 8 4) .nil)) .nil), stv109)]
theorem stranOf18 : ranAll Tryz.prog stov1 175 stOf18 = true := by decide +kernel
noncomputable def stOf19 : List (AV × AV) := [
  ((.cons (.agg (.cons (bxI 16 4 0 20 8 4) .nil)) .nil), stv110),
  ((.cons (.agg (.cons (bxI 0 8 0 20 12 4) .nil)) .nil), stv111),
  ((.cons stv112 .nil), stv113),
  ((.cons stv114 .nil), stv115),
  ((.cons (.agg (.cons (bxI 0 0 0 4 12 12) .nil)) .nil), stv116)]
theorem stranOf19 : ranAll Tryz.prog stov1 175 stOf19 = true := by decide +kernel
noncomputable def stOf20 : List (AV × AV) := [
  ((.cons (.agg (.cons (bxI 4 0 0 16 12 4) .nil)) .nil), stv117),
  ((.cons stv118 .nil), stv119),
  ((.cons (.agg (.cons (bxI 4 8 4 16 12 8) .nil)) .nil), stv120),
  ((.cons (.agg (.cons (bxI 12 4 4 16 8 8) .nil)) .nil), stv121),
  ((.cons (.agg (.cons (bxI 0 0 0 2 2 2) .nil)) .nil), (.tup (.cons (bxi 0 0 0 2 2 2) (.cons (.int .i64 0) .nil))))]
theorem stranOf20 : ranAll Tryz.prog stov1 175 stOf20 = true := by decide +kernel
noncomputable def stOf21 : List (AV × AV) := [
  ((.cons (.agg (.cons (bxI 0 0 2 2 2 4) .nil)) .nil), (.tup (.cons (bxi 0 0 2 2 2 4) (.cons (.int .i64 0) .nil)))),
  ((.cons (.agg (.cons (bxI 0 0 4 2 2 6) .nil)) .nil), (.tup (.cons (bxi 0 0 4 2 2 6) (.cons (.int .i64 0) .nil)))),
  ((.cons (.agg (.cons (bxI 0 0 6 2 2 8) .nil)) .nil), (.tup (.cons (bxi 0 0 6 2 2 8) (.cons (.int .i64 0) .nil)))),
  ((.cons (.agg (.cons (bxI 0 0 8 2 2 10) .nil)) .nil), stv122),
  ((.cons (.agg (.cons (bxI 0 0 0 2 6 6) .nil)) .nil), (.tup (.cons (bxi 0 0 0 2 6 6) (.cons (.int .i64 0) .nil))))]
theorem stranOf21 : ranAll Tryz.prog stov1 175 stOf21 = true := by decide +kernel
noncomputable def stOf22 : List (AV × AV) := [
  ((.cons (.agg (.cons (bxI 2 0 0 8 6 2) .nil)) .nil), (.tup (.cons (bxi 2 0 0 8 6 2) (.cons (.int .i64 0) .nil)))),
  ((.cons (.agg (.cons (bxI 2 0 4 8 6 6) .nil)) .nil), (.tup (.cons (bxi 2 0 4 8 6 6) (.cons (.int .i64 0) .nil)))),
  ((.cons (.agg (.cons (bxI 2 4 2 8 6 4) .nil)) .nil), (.tup (.cons (bxi 2 4 2 8 6 4) (.cons (.int .i64 0) .nil)))),
  ((.cons (.agg (.cons (bxI 2 2 2 4 4 4) .nil)) .nil), (.tup (.cons (bxi 2 2 2 4 4 4) (.cons (.int .i64 0) .nil)))),
  ((.cons (.agg (.cons (bxI 4 2 2 6 4 4) .nil)) .nil), (.tup (.cons (bxi 4 2 2 6 4 4) (.cons (.int .i64 0) .nil))))]
theorem stranOf22 : ranAll Tryz.prog stov1 175 stOf22 = true := by decide +kernel
noncomputable def stOf23 : List (AV × AV) := [
  ((.cons (.agg (.cons (bxI 6 2 2 8 4 4) .nil)) .nil), (.tup (.cons (bxi 6 2 2 8 4 4) (.cons (.int .i64 0) .nil)))),
  ((.cons (.agg (.cons (bxI 0 0 0 20 12 4) .nil)) .nil), stv123),
  ((.cons stv124 .nil), stv125),
  ((.cons stv126 .nil), stv127),
  ((.cons (.agg (.cons (bxI 3 0 0 6 9 3) .nil)) .nil), (.tup (.cons (bxi 3 0 0 6 9 3) (.cons (.int .i64 0) .nil))))]
theorem stranOf23 : ranAll Tryz.prog stov1 175 stOf23 = true := by decide +kernel
noncomputable def stOf24 : List (AV × AV) := [
  ((.cons (.agg (.cons (bxI 3 0 6 6 9 9) .nil)) .nil), (.tup (.cons (bxi 3 0 6 6 9 9) (.cons (.int .i64 0) .nil)))),
  ((.cons (.agg (.cons (bxI 3 0 3 6 3 6) .nil)) .nil), (.tup (.cons (bxi 3 0 3 6 3 6) (.cons (.int .i64 0) .nil)))),
  ((.cons (.agg (.cons (bxI 3 6 3 6 9 6) .nil)) .nil), (.tup (.cons (bxi 3 6 3 6 9 6) (.cons (.int .i64 0) .nil)))),
  ((.cons (.agg (.cons (bxI 18 3 0 21 6 3) .nil)) .nil), stv128),
  ((.cons (.agg (.cons (bxI 0 0 0 21 3 3) .nil)) .nil), stv129)]
theorem stranOf24 : ranAll Tryz.prog stov1 175 stOf24 = true := by decide +kernel
noncomputable def stOf25 : List (AV × AV) := [
  ((.cons (.agg (.cons (bxI 0 6 0 21 9 3) .nil)) .nil), stv130),
  ((.cons stv131 .nil), stv132),
  ((.cons (.agg (.cons (bxI 0 0 0 1 5 1) .nil)) .nil), stv133),
  ((.cons (.agg (.cons (bxI 6 0 0 7 5 1) .nil)) .nil), stv134),
  ((.cons (.agg (.cons (bxI 1 0 0 6 1 1) .nil)) .nil), stv135)]
theorem stranOf25 : ranAll Tryz.prog stov1 175 stOf25 = true := by decide +kernel
noncomputable def stOf26 : List (AV × AV) := [
  ((.cons (.agg (.cons (bxI 1 4 0 6 5 1) .nil)) .nil), stv136),
  ((.cons stv137 .nil), stv138),
  ((.cons stv139 .nil), stv140),
  ((.cons stv141 .nil), stv142),
  ((.cons (.agg (.cons (bxI 5 2 2 10 3 3) .nil)) .nil), stv143)]
theorem stranOf26 : ranAll Tryz.prog stov1 175 stOf26 = true := by decide +kernel
noncomputable def stOf27 : List (AV × AV) := [
  ((.cons (.agg (.cons (bxI 8 0 0 9 5 1) .nil)) .nil), stv144),
  ((.cons (.agg (.cons (bxI 14 0 0 15 5 1) .nil)) .nil), stv145),
  ((.cons (.agg (.cons (bxI 9 0 0 14 1 1) .nil)) .nil), stv146),
  ((.cons (.agg (.cons (bxI 9 4 0 14 5 1) .nil)) .nil), stv147),
  ((.cons stv148 .nil), stv149)]
theorem stranOf27 : ranAll Tryz.prog stov1 175 stOf27 = true := by decide +kernel
noncomputable def stOf28 : List (AV × AV) := [
  ((.cons stv150 .nil), stv151),
  ((.cons stv152 .nil), stv153),
  ((.cons (.agg (.cons (bxI 13 2 2 18 3 3) .nil)) .nil), stv154),
  ((.cons (.agg (.cons (bxI 24 4 0 28 8 4) .nil)) .nil), stv156),
  ((.cons (.agg (.cons (bxI 0 0 0 28 4 4) .nil)) .nil), stv157)]
theorem stranOf28 : ranAll Tryz.prog stov1 175 stOf28 = true := by decide +kernel
noncomputable def stOf29 : List (AV × AV) := [
  ((.cons (.agg (.cons (bxI 0 8 0 28 12 4) .nil)) .nil), stv158),
  ((.cons stv159 .nil), stv160),
  ((.cons (.agg (.cons (bxI 8 2 0 10 4 2) .nil)) .nil), stv161),
  ((.cons (.agg (.cons (bxI 0 0 0 10 2 2) .nil)) .nil), stv162),
  ((.cons (.agg (.cons (bxI 0 4 0 10 6 2) .nil)) .nil), stv163)]
theorem stranOf29 : ranAll Tryz.prog stov1 175 stOf29 = true := by decide +kernel
noncomputable def stOf30 : List (AV × AV) := [
  ((.cons stv164 .nil), stv165),
  ((.cons (.agg (.cons (bxI 3 0 0 15 9 3) .nil)) .nil), stv166),
  ((.cons (.agg (.cons (bxI 3 0 6 15 9 9) .nil)) .nil), stv167),
  ((.cons (.agg (.cons (bxI 3 0 3 15 3 6) .nil)) .nil), stv168),
  ((.cons (.agg (.cons (bxI 3 6 3 15 9 6) .nil)) .nil), stv169)]
theorem stranOf30 : ranAll Tryz.prog stov1 175 stOf30 = true := by decide +kernel
noncomputable def stOf31 : List (AV × AV) := [
  ((.cons (.agg (.cons (bxI 12 3 3 15 6 6) .nil)) .nil), stv170),
  ((.cons (.agg (.cons (bxI 0 0 0 9 9 3) .nil)) .nil), (.tup (.cons (bxi 0 0 0 9 9 3) (.cons (.int .i64 0) .nil)))),
  ((.cons (.agg (.cons (bxI 6 0 3 9 9 6) .nil)) .nil), (.tup (.cons (bxi 6 0 3 9 9 6) (.cons (.int .i64 0) .nil)))),
  ((.cons (.agg (.cons (bxI 0 0 6 9 9 9) .nil)) .nil), (.tup (.cons (bxi 0 0 6 9 9 9) (.cons (.int .i64 0) .nil)))),
  ((.cons stv171 .nil), stv172)]
theorem stranOf31 : ranAll Tryz.prog stov1 175 stOf31 = true := by decide +kernel
end Go.Sy
