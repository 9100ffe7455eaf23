/- Runs of dowel/cell.Of. -/
import Derived.Test.YtialjngnlekplaaGreatDoorStO0
namespace Go.Sy
open Go.RowKit Go.Proofs
set_option linter.unusedVariables false
set_option maxRecDepth 1000000
set_option maxHeartbeats 0
noncomputable def stOf48 : List (AV × AV) := [
  ((.cons (.agg (.cons (bxI 0 0 6 6 3 9) .nil)) .nil), (.tup (.cons (bxi 0 0 6 6 3 9) (.cons (.int .i64 0) .nil)))),
  ((.cons (.agg (.cons (bxI 9 0 6 15 3 9) .nil)) .nil), stv239),
  ((.cons (.agg (.cons (bxI 0 0 0 5 2 1) .nil)) .nil), (.tup (.cons (bxi 0 0 0 5 2 1) (.cons (.int .i64 0) .nil)))),
  ((.cons (.agg (.cons (bxI 0 0 1 1 2 2) .nil)) .nil), stv240),
  ((.cons (.agg (.cons (bxI 4 0 1 5 2 2) .nil)) .nil), stv241)]
theorem stranOf48 : ranAll Tryz.prog stov1 175 stOf48 = true := by decide +kernel
noncomputable def stOf49 : List (AV × AV) := [
  ((.cons (.agg (.cons (bxI 0 0 2 2 2 3) .nil)) .nil), (.tup (.cons (bxi 0 0 2 2 2 3) (.cons (.int .i64 0) .nil)))),
  ((.cons (.agg (.cons (bxI 3 0 2 5 2 3) .nil)) .nil), (.tup (.cons (bxi 3 0 2 5 2 3) (.cons (.int .i64 0) .nil)))),
  ((.cons (.agg (.cons (bxI 2 0 2 3 1 4) .nil)) .nil), stv242),
  ((.cons (.agg (.cons (bxI 1 1 1 4 2 2) .nil)) .nil), stv243),
  ((.cons (.agg (.cons (bxI 2 1 2 3 2 4) .nil)) .nil), stv244)]
theorem stranOf49 : ranAll Tryz.prog stov1 175 stOf49 = true := by decide +kernel
noncomputable def stOf50 : List (AV × AV) := [
  ((.cons stv245 .nil), stv246),
  ((.cons stv247 .nil), stv248),
  ((.cons (.agg (.cons (bxI 36 0 0 56 4 4) .nil)) .nil), stv249),
  ((.cons stv250 .nil), stv251),
  ((.cons (.agg (.cons (bxI 0 0 0 12 4 4) .nil)) .nil), stv252)]
theorem stranOf50 : ranAll Tryz.prog stov1 175 stOf50 = true := by decide +kernel
noncomputable def stOf51 : List (AV × AV) := [
  ((.cons (.agg (.cons (bxI 0 8 0 12 12 4) .nil)) .nil), stv253),
  ((.cons (.agg (.cons (bxI 1 0 0 4 3 1) .nil)) .nil), (.tup (.cons (bxi 1 0 0 4 3 1) (.cons (.int .i64 0) .nil)))),
  ((.cons (.agg (.cons (bxI 1 0 2 4 3 3) .nil)) .nil), (.tup (.cons (bxi 1 0 2 4 3 3) (.cons (.int .i64 0) .nil)))),
  ((.cons (.agg (.cons (bxI 0 0 16 4 4 20) .nil)) .nil), stv254),
  ((.cons (.agg (.cons (bxI 0 0 4 10 6 6) .nil)) .nil), stv255)]
theorem stranOf51 : ranAll Tryz.prog stov1 175 stOf51 = true := by decide +kernel
noncomputable def stOf52 : List (AV × AV) := [
  ((.cons (.agg (.cons (bxI 0 0 0 6 6 2) .nil)) .nil), (.tup (.cons (bxi 0 0 0 6 6 2) (.cons (.int .i64 0) .nil)))),
  ((.cons (.agg (.cons (bxI 4 0 2 6 6 4) .nil)) .nil), (.tup (.cons (bxi 4 0 2 6 6 4) (.cons (.int .i64 0) .nil)))),
  ((.cons (.agg (.cons (bxI 2 0 2 4 2 4) .nil)) .nil), (.tup (.cons (bxi 2 0 2 4 2 4) (.cons (.int .i64 0) .nil)))),
  ((.cons (.agg (.cons (bxI 2 4 2 4 6 4) .nil)) .nil), (.tup (.cons (bxi 2 4 2 4 6 4) (.cons (.int .i64 0) .nil)))),
  ((.cons (.agg (.cons (bxI 0 0 4 6 6 6) .nil)) .nil), (.tup (.cons (bxi 0 0 4 6 6 6) (.cons (.int .i64 0) .nil))))]
theorem stranOf52 : ranAll Tryz.prog stov1 175 stOf52 = true := by decide +kernel
noncomputable def stOf53 : List (AV × AV) := [
  ((.cons (.agg (.cons (bxI 0 0 0 12 12 4) .nil)) .nil), stv256),
  ((.cons (.agg (.cons (bxI 8 0 4 12 12 8) .nil)) .nil), stv257),
  ((.cons (.agg (.cons (bxI 4 0 4 8 4 8) .nil)) .nil), (.tup (.cons (bxi 4 0 4 8 4 8) (.cons (.int .i64 0) .nil)))),
  ((.cons (.agg (.cons (bxI 4 8 4 8 12 8) .nil)) .nil), stv258),
  ((.cons stv259 .nil), stv260)]
theorem stranOf53 : ranAll Tryz.prog stov1 175 stOf53 = true := by decide +kernel
noncomputable def stOf54 : List (AV × AV) := [
  ((.cons stv261 .nil), stv262),
  ((.cons stv263 .nil), stv264),
  ((.cons stv265 .nil), stv266),
  ((.cons stv267 .nil), stv268),
  ((.cons (.agg (.cons (bxI 4 0 0 8 12 4) .nil)) .nil), stv269)]
theorem stranOf54 : ranAll Tryz.prog stov1 175 stOf54 = true := by decide +kernel
noncomputable def stOf55 : List (AV × AV) := [
  ((.cons (.agg (.cons (bxI 4 0 8 8 12 12) .nil)) .nil), stv270),
  ((.cons (.agg (.cons (bxI 0 0 0 4 3 1) .nil)) .nil), (.tup (.cons (bxi 0 0 0 4 3 1) (.cons (.int .i64 0) .nil)))),
  ((.cons (.agg (.cons (bxI 3 0 1 4 3 2) .nil)) .nil), stv271),
  ((.cons (.agg (.cons (bxI 0 0 2 4 3 3) .nil)) .nil), (.tup (.cons (bxi 0 0 2 4 3 3) (.cons (.int .i64 0) .nil)))),
  ((.cons (.agg (.cons (bxI 2 0 0 4 6 2) .nil)) .nil), (.tup (.cons (bxi 2 0 0 4 6 2) (.cons (.int .i64 0) .nil))))]
theorem stranOf55 : ranAll Tryz.prog stov1 175 stOf55 = true := by decide +kernel
noncomputable def stOf56 : List (AV × AV) := [
  ((.cons (.agg (.cons (bxI 2 0 4 4 6 6) .nil)) .nil), (.tup (.cons (bxi 2 0 4 4 6 6) (.cons (.int .i64 0) .nil)))),
  ((.cons (.agg (.cons (bxI 0 0 6 6 9 9) .nil)) .nil), (.tup (.cons (bxi 0 0 6 6 9 9) (.cons (.int .i64 0) .nil)))),
  ((.cons (.agg (.cons (bxI 9 0 6 15 9 9) .nil)) .nil), stv272),
  ((.cons (.agg (.cons (bxI 6 6 6 9 9 12) .nil)) .nil), stv273),
  ((.cons (.agg (.cons (bxI 0 0 2 2 3 3) .nil)) .nil), (.tup (.cons (bxi 0 0 2 2 3 3) (.cons (.int .i64 0) .nil))))]
theorem stranOf56 : ranAll Tryz.prog stov1 175 stOf56 = true := by decide +kernel
noncomputable def stOf57 : List (AV × AV) := [
  ((.cons (.agg (.cons (bxI 3 0 2 5 3 3) .nil)) .nil), (.tup (.cons (bxi 3 0 2 5 3 3) (.cons (.int .i64 0) .nil)))),
  ((.cons (.agg (.cons (bxI 2 2 2 3 3 4) .nil)) .nil), stv274),
  ((.cons (.agg (.cons (bxI 2 0 0 10 6 2) .nil)) .nil), stv275),
  ((.cons (.agg (.cons (bxI 2 0 4 10 6 6) .nil)) .nil), stv276),
  ((.cons (.agg (.cons (bxI 2 0 2 10 2 4) .nil)) .nil), stv277)]
theorem stranOf57 : ranAll Tryz.prog stov1 175 stOf57 = true := by decide +kernel
noncomputable def stOf58 : List (AV × AV) := [
  ((.cons (.agg (.cons (bxI 2 4 2 10 6 4) .nil)) .nil), stv278),
  ((.cons (.agg (.cons (bxI 8 2 2 10 4 4) .nil)) .nil), stv279),
  ((.cons (.agg (.cons (bxI 0 0 0 5 1 1) .nil)) .nil), stv280),
  ((.cons (.agg (.cons (bxI 0 2 0 5 3 1) .nil)) .nil), stv281),
  ((.cons (.agg (.cons (bxI 4 0 1 5 1 2) .nil)) .nil), (.tup (.cons (bxo 4 0 1 5 1 2) (.cons (.int .i64 0) .nil))))]
theorem stranOf58 : ranAll Tryz.prog stov1 175 stOf58 = true := by decide +kernel
noncomputable def stOf59 : List (AV × AV) := [
  ((.cons (.agg (.cons (bxI 0 0 2 2 1 3) .nil)) .nil), stv282),
  ((.cons (.agg (.cons (bxI 3 0 2 5 1 3) .nil)) .nil), stv283),
  ((.cons (.agg (.cons (bxI 0 0 0 8 6 2) .nil)) .nil), (.tup (.cons (bxi 0 0 0 8 6 2) (.cons (.int .i64 0) .nil)))),
  ((.cons (.agg (.cons (bxI 6 0 2 8 6 4) .nil)) .nil), (.tup (.cons (bxi 6 0 2 8 6 4) (.cons (.int .i64 0) .nil)))),
  ((.cons (.agg (.cons (bxI 0 0 4 8 6 6) .nil)) .nil), (.tup (.cons (bxi 0 0 4 8 6 6) (.cons (.int .i64 0) .nil))))]
theorem stranOf59 : ranAll Tryz.prog stov1 175 stOf59 = true := by decide +kernel
noncomputable def stOf60 : List (AV × AV) := [
  ((.cons (.agg (.cons (bxI 12 2 0 14 4 2) .nil)) .nil), stv284),
  ((.cons (.agg (.cons (bxI 0 0 0 14 2 2) .nil)) .nil), stv285),
  ((.cons (.agg (.cons (bxI 0 4 0 14 6 2) .nil)) .nil), stv286),
  ((.cons stv287 .nil), stv288),
  ((.cons (.agg (.cons (bxI 3 0 0 9 9 3) .nil)) .nil), (.tup (.cons (bxi 3 0 0 9 9 3) (.cons (.int .i64 0) .nil))))]
theorem stranOf60 : ranAll Tryz.prog stov1 175 stOf60 = true := by decide +kernel
noncomputable def stOf61 : List (AV × AV) := [
  ((.cons (.agg (.cons (bxI 3 0 6 9 9 9) .nil)) .nil), (.tup (.cons (bxi 3 0 6 9 9 9) (.cons (.int .i64 0) .nil)))),
  ((.cons (.agg (.cons (bxI 3 0 3 9 3 6) .nil)) .nil), (.tup (.cons (bxi 3 0 3 9 3 6) (.cons (.int .i64 0) .nil)))),
  ((.cons (.agg (.cons (bxI 3 6 3 9 9 6) .nil)) .nil), (.tup (.cons (bxi 3 6 3 9 9 6) (.cons (.int .i64 0) .nil)))),
  ((.cons (.agg (.cons (bxI 0 0 10 2 2 12) .nil)) .nil), stv289),
  ((.cons (.agg (.cons (bxI 1 0 0 2 3 1) .nil)) .nil), stv290)]
theorem stranOf61 : ranAll Tryz.prog stov1 175 stOf61 = true := by decide +kernel
noncomputable def stOf62 : List (AV × AV) := [
  ((.cons (.agg (.cons (bxI 1 0 2 2 3 3) .nil)) .nil), stv291),
  ((.cons (.agg (.cons (bxI 0 0 20 4 4 24) .nil)) .nil), stv292),
  ((.cons (.agg (.cons (bxI 0 0 0 12 9 3) .nil)) .nil), stv293),
  ((.cons (.agg (.cons (bxI 9 0 3 12 9 6) .nil)) .nil), stv294),
  ((.cons (.agg (.cons (bxI 0 0 6 12 9 9) .nil)) .nil), stv295)]
theorem stranOf62 : ranAll Tryz.prog stov1 175 stOf62 = true := by decide +kernel
noncomputable def stOf63 : List (AV × AV) := [
  ((.cons (.agg (.cons (bxI 4 0 0 20 12 4) .nil)) .nil), stv296),
  ((.cons stv297 .nil), stv298),
  ((.cons (.agg (.cons (bxI 4 0 4 20 4 8) .nil)) .nil), stv299),
  ((.cons (.agg (.cons (bxI 4 8 4 20 12 8) .nil)) .nil), stv300),
  ((.cons (.agg (.cons (bxI 16 4 4 20 8 8) .nil)) .nil), stv301)]
theorem stranOf63 : ranAll Tryz.prog stov1 175 stOf63 = true := by decide +kernel
end Go.Sy
