/- Runs of dowel/cell.Of. -/
import Derived.Test.YtialjngnlekplaaGreatDoorStO0
namespace Go.Sy
open Go.RowKit Go.Proofs
set_option linter.unusedVariables false
set_option maxRecDepth 1000000
set_option maxHeartbeats 0
noncomputable def stOf0 : List (AV × AV) := [
  ((.cons (.agg (.cons (bxI 0 0 0 2 10 2) .nil)) .nil), stv6),
  ((.cons stv7 .nil), stv8),
  ((.cons (.agg (.cons (bxI 2 0 0 12 2 2) .nil)) .nil), stv9),
  ((.cons (.agg (.cons (bxI 2 8 0 12 10 2) .nil)) .nil), stv10),
  ((.cons stv11 .nil), stv12)]
theorem stranOf0 : ranAll Tryz.prog stov1 175 stOf0 = true := by decide +kernel
noncomputable def stOf1 : List (AV × AV) := [
  ((.cons stv13 .nil), stv14),
  ((.cons stv15 .nil), stv16),
  ((.cons (.agg (.cons (bxI 10 4 4 20 6 6) .nil)) .nil), stv17),
  ((.cons (.agg (.cons (bxI 0 0 0 20 4 4) .nil)) .nil), stv31),
  ((.cons (.agg (.cons (bxI 0 0 4 4 4 8) .nil)) .nil), (.tup (.cons (bxi 0 0 4 4 4 8) (.cons (.int .i64 0) .nil))))]
theorem stranOf1 : ranAll Tryz.prog stov1 175 stOf1 = true := by decide +kernel
noncomputable def stOf2 : List (AV × AV) := [
  ((.cons (.agg (.cons (bxI 16 0 4 20 4 8) .nil)) .nil), stv32),
  ((.cons (.agg (.cons (bxI 0 0 8 8 4 12) .nil)) .nil), stv33),
  ((.cons stv34 .nil), stv35),
  ((.cons (.agg (.cons (bxI 4 0 4 16 4 8) .nil)) .nil), stv36),
  ((.cons (.agg (.cons (bxI 8 0 8 12 4 16) .nil)) .nil), stv37)]
theorem stranOf2 : ranAll Tryz.prog stov1 175 stOf2 = true := by decide +kernel
noncomputable def stOf3 : List (AV × AV) := [
  ((.cons (.agg (.cons (bxI 0 0 0 15 9 3) .nil)) .nil), stv38),
  ((.cons (.agg (.cons (bxI 0 0 3 3 9 6) .nil)) .nil), (.tup (.cons (bxi 0 0 3 3 9 6) (.cons (.int .i64 0) .nil)))),
  ((.cons (.agg (.cons (bxI 12 0 3 15 9 6) .nil)) .nil), stv39),
  ((.cons (.agg (.cons (bxI 3 0 3 12 3 6) .nil)) .nil), stv40),
  ((.cons (.agg (.cons (bxI 3 6 3 12 9 6) .nil)) .nil), stv41)]
theorem stranOf3 : ranAll Tryz.prog stov1 175 stOf3 = true := by decide +kernel
noncomputable def stOf4 : List (AV × AV) := [
  ((.cons (.agg (.cons (bxI 3 3 3 6 6 6) .nil)) .nil), (.tup (.cons (bxi 3 3 3 6 6 6) (.cons (.int .i64 0) .nil)))),
  ((.cons (.agg (.cons (bxI 6 3 3 9 6 6) .nil)) .nil), (.tup (.cons (bxi 6 3 3 9 6 6) (.cons (.int .i64 0) .nil)))),
  ((.cons (.agg (.cons (bxI 9 3 3 12 6 6) .nil)) .nil), stv42),
  ((.cons (.agg (.cons (bxI 0 0 6 15 9 9) .nil)) .nil), stv43),
  ((.cons (.agg (.cons (bxI 0 0 0 4 4 4) .nil)) .nil), (.tup (.cons (bxi 0 0 0 4 4 4) (.cons (.int .i64 0) .nil))))]
theorem stranOf4 : ranAll Tryz.prog stov1 175 stOf4 = true := by decide +kernel
noncomputable def stOf5 : List (AV × AV) := [
  ((.cons (.agg (.cons (bxI 0 0 8 4 4 12) .nil)) .nil), stv44),
  ((.cons (.agg (.cons (bxI 0 0 12 4 4 16) .nil)) .nil), stv45),
  ((.cons (.agg (.cons (bxI 0 0 0 1 3 3) .nil)) .nil), (.tup (.cons (bxi 0 0 0 1 3 3) (.cons (.int .i64 0) .nil)))),
  ((.cons (.agg (.cons (bxI 1 0 0 3 3 1) .nil)) .nil), (.tup (.cons (bxi 1 0 0 3 3 1) (.cons (.int .i64 0) .nil)))),
  ((.cons (.agg (.cons (bxI 1 0 2 3 3 3) .nil)) .nil), (.tup (.cons (bxi 1 0 2 3 3 3) (.cons (.int .i64 0) .nil))))]
theorem stranOf5 : ranAll Tryz.prog stov1 175 stOf5 = true := by decide +kernel
noncomputable def stOf6 : List (AV × AV) := [
  ((.cons (.agg (.cons (bxI 1 0 1 3 1 2) .nil)) .nil), stv46),
  ((.cons (.agg (.cons (bxI 1 2 1 3 3 2) .nil)) .nil), stv47),
  ((.cons (.agg (.cons (bxI 1 1 1 2 2 2) .nil)) .nil), (.tup (.cons (bxo 1 1 1 2 2 2) (.cons (.int .i64 0) .nil)))),
  ((.cons (.agg (.cons (bxI 2 1 1 3 2 2) .nil)) .nil), (.tup (.cons (bxo 2 1 1 3 2 2) (.cons (.int .i64 0) .nil)))),
  ((.cons (.agg (.cons (bxI 0 0 0 16 12 4) .nil)) .nil), stv51)]
theorem stranOf6 : ranAll Tryz.prog stov1 175 stOf6 = true := by decide +kernel
noncomputable def stOf7 : List (AV × AV) := [
  ((.cons (.agg (.cons (bxI 0 0 4 4 12 8) .nil)) .nil), stv52),
  ((.cons stv53 .nil), stv54),
  ((.cons (.agg (.cons (bxI 4 0 4 12 4 8) .nil)) .nil), stv55),
  ((.cons (.agg (.cons (bxI 4 8 4 12 12 8) .nil)) .nil), stv56),
  ((.cons (.agg (.cons (bxI 4 4 4 8 8 8) .nil)) .nil), (.tup (.cons (bxi 4 4 4 8 8 8) (.cons (.int .i64 0) .nil))))]
theorem stranOf7 : ranAll Tryz.prog stov1 175 stOf7 = true := by decide +kernel
noncomputable def stOf8 : List (AV × AV) := [
  ((.cons (.agg (.cons (bxI 8 4 4 12 8 8) .nil)) .nil), stv57),
  ((.cons stv58 .nil), stv59),
  ((.cons (.agg (.cons (bxI 0 3 0 3 6 3) .nil)) .nil), (.tup (.cons (bxi 0 3 0 3 6 3) (.cons (.int .i64 0) .nil)))),
  ((.cons (.agg (.cons (bxI 6 3 0 9 6 3) .nil)) .nil), (.tup (.cons (bxi 6 3 0 9 6 3) (.cons (.int .i64 0) .nil)))),
  ((.cons (.agg (.cons (bxI 12 3 0 15 6 3) .nil)) .nil), stv60)]
theorem stranOf8 : ranAll Tryz.prog stov1 175 stOf8 = true := by decide +kernel
noncomputable def stOf9 : List (AV × AV) := [
  ((.cons (.agg (.cons (bxI 0 0 0 15 3 3) .nil)) .nil), stv61),
  ((.cons (.agg (.cons (bxI 0 6 0 15 9 3) .nil)) .nil), stv62),
  ((.cons stv63 .nil), stv64),
  ((.cons stv65 .nil), stv66),
  ((.cons (.agg (.cons (bxI 0 2 0 2 4 2) .nil)) .nil), (.tup (.cons (bxi 0 2 0 2 4 2) (.cons (.int .i64 0) .nil))))]
theorem stranOf9 : ranAll Tryz.prog stov1 175 stOf9 = true := by decide +kernel
noncomputable def stOf10 : List (AV × AV) := [
  ((.cons (.agg (.cons (bxI 4 2 0 6 4 2) .nil)) .nil), (.tup (.cons (bxi 4 2 0 6 4 2) (.cons (.int .i64 0) .nil)))),
  ((.cons (.agg (.cons (bxI 0 0 0 6 2 2) .nil)) .nil), (.tup (.cons (bxi 0 0 0 6 2 2) (.cons (.int .i64 0) .nil)))),
  ((.cons (.agg (.cons (bxI 0 4 0 6 6 2) .nil)) .nil), (.tup (.cons (bxi 0 4 0 6 6 2) (.cons (.int .i64 0) .nil)))),
  ((.cons stv67 .nil), stv68),
  ((.cons (.agg (.cons (bxI 0 0 0 3 15 3) .nil)) .nil), stv69)]
theorem stranOf10 : ranAll Tryz.prog stov1 175 stOf10 = true := by decide +kernel
noncomputable def stOf11 : List (AV × AV) := [
  ((.cons stv70 .nil), stv71),
  ((.cons (.agg (.cons (bxI 3 0 0 18 3 3) .nil)) .nil), stv72),
  ((.cons stv73 .nil), stv74),
  ((.cons stv75 .nil), stv76),
  ((.cons stv77 .nil), stv78)]
theorem stranOf11 : ranAll Tryz.prog stov1 175 stOf11 = true := by decide +kernel
noncomputable def stOf12 : List (AV × AV) := [
  ((.cons stv79 .nil), stv80),
  ((.cons (.agg (.cons (bxI 15 6 6 30 9 9) .nil)) .nil), stv81),
  ((.cons (.agg (.cons (bxI 0 0 0 4 20 4) .nil)) .nil), stv82),
  ((.cons stv83 .nil), stv84),
  ((.cons (.agg (.cons (bxI 4 0 0 24 4 4) .nil)) .nil), stv85)]
theorem stranOf12 : ranAll Tryz.prog stov1 175 stOf12 = true := by decide +kernel
noncomputable def stOf13 : List (AV × AV) := [
  ((.cons stv86 .nil), stv87),
  ((.cons stv88 .nil), stv89),
  ((.cons stv90 .nil), stv91),
  ((.cons stv92 .nil), stv93),
  ((.cons stv94 .nil), stv95)]
theorem stranOf13 : ranAll Tryz.prog stov1 175 stOf13 = true := by decide +kernel
noncomputable def stOf14 : List (AV × AV) := [
  ((.cons (.agg (.cons (bxI 0 0 0 3 9 9) .nil)) .nil), (.tup (.cons (bxi 0 0 0 3 9 9) (.cons (.int .i64 0) .nil)))),
  ((.cons (.agg (.cons (bxI 3 0 0 12 9 3) .nil)) .nil), stv96),
  ((.cons (.agg (.cons (bxI 3 0 6 12 9 9) .nil)) .nil), stv97),
  ((.cons (.agg (.cons (bxI 0 0 0 10 4 2) .nil)) .nil), stv98),
  ((.cons (.agg (.cons (bxI 0 0 2 2 4 4) .nil)) .nil), (.tup (.cons (bxi 0 0 2 2 4 4) (.cons (.int .i64 0) .nil))))]
theorem stranOf14 : ranAll Tryz.prog stov1 175 stOf14 = true := by decide +kernel
noncomputable def stOf15 : List (AV × AV) := [
  ((.cons (.agg (.cons (bxI 8 0 2 10 4 4) .nil)) .nil), stv99),
  ((.cons (.agg (.cons (bxI 0 0 4 4 4 6) .nil)) .nil), (.tup (.cons (bxi 0 0 4 4 4 6) (.cons (.int .i64 0) .nil)))),
  ((.cons (.agg (.cons (bxI 6 0 4 10 4 6) .nil)) .nil), stv100),
  ((.cons (.agg (.cons (bxI 2 0 2 8 2 4) .nil)) .nil), (.tup (.cons (bxi 2 0 2 8 2 4) (.cons (.int .i64 0) .nil)))),
  ((.cons (.agg (.cons (bxI 4 0 4 6 2 8) .nil)) .nil), (.tup (.cons (bxi 4 0 4 6 2 8) (.cons (.int .i64 0) .nil))))]
theorem stranOf15 : ranAll Tryz.prog stov1 175 stOf15 = true := by decide +kernel
end Go.Sy
