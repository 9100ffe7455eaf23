/- Runs of dowel/cell.Of. -/
import Derived.Test.YtemoafmennfhhaaGreatDoorStO0
namespace Go.Sy
open Go.RowKit Go.Proofs
set_option linter.unusedVariables false
set_option maxRecDepth 1000000
set_option maxHeartbeats 0
noncomputable def stOf48 : List (AV × AV):=[
  ((.cons (.agg (.cons (bxI 0 0 0 8 6 2) .nil)) .nil),(.tup (.cons (bxi 0 0 0 8 6 2) (.cons (.int .i64 0) .nil)))),
  ((.cons (.agg (.cons (bxI 6 0 2 8 6 4) .nil)) .nil),(.tup (.cons (bxi 6 0 2 8 6 4) (.cons (.int .i64 0) .nil)))),
  ((.cons (.agg (.cons (bxI 2 0 2 6 2 4) .nil)) .nil),(.tup (.cons (bxi 2 0 2 6 2 4) (.cons (.int .i64 0) .nil)))),
  ((.cons (.agg (.cons (bxI 2 4 2 6 6 4) .nil)) .nil),(.tup (.cons (bxi 2 4 2 6 6 4) (.cons (.int .i64 0) .nil)))),
  ((.cons (.agg (.cons (bxI 4 2 2 6 4 4) .nil)) .nil),(.tup (.cons (bxi 4 2 2 6 4 4) (.cons (.int .i64 0) .nil)))),
  ((.cons (.agg (.cons (bxI 0 0 4 8 6 6) .nil)) .nil),(.tup (.cons (bxi 0 0 4 8 6 6) (.cons (.int .i64 0) .nil))))]
theorem stranOf48 : ranAll Tryz.prog stov1 265 stOf48 = true:=by decide +kernel
noncomputable def stOf49 : List (AV × AV):=[
  ((.cons (.agg (.cons (bxI 6 2 2 8 4 4) .nil)) .nil),(.tup (.cons (bxi 6 2 2 8 4 4) (.cons (.int .i64 0) .nil)))),
  ((.cons (.agg (.cons (bxI 0 0 4 10 6 6) .nil)) .nil),stv248)]
theorem stranOf49 : ranAll Tryz.prog stov1 265 stOf49 = true:=by decide +kernel
noncomputable def stOf50 : List (AV × AV):=[
  ((.cons (.agg (.cons (bxI 0 0 0 9 9 3) .nil)) .nil),(.tup (.cons (bxi 0 0 0 9 9 3) (.cons (.int .i64 0) .nil)))),
  ((.cons (.agg (.cons (bxI 6 0 3 9 9 6) .nil)) .nil),(.tup (.cons (bxi 6 0 3 9 9 6) (.cons (.int .i64 0) .nil)))),
  ((.cons (.agg (.cons (bxI 3 0 3 6 3 6) .nil)) .nil),(.tup (.cons (bxi 3 0 3 6 3 6) (.cons (.int .i64 0) .nil)))),
  ((.cons (.agg (.cons (bxI 3 6 3 6 9 6) .nil)) .nil),(.tup (.cons (bxi 3 6 3 6 9 6) (.cons (.int .i64 0) .nil)))),
  ((.cons (.agg (.cons (bxI 3 3 3 6 6 6) .nil)) .nil),(.tup (.cons (bxi 3 3 3 6 6 6) (.cons (.int .i64 0) .nil)))),
  ((.cons (.agg (.cons (bxI 0 0 6 9 9 9) .nil)) .nil),(.tup (.cons (bxi 0 0 6 9 9 9) (.cons (.int .i64 0) .nil))))]
theorem stranOf50 : ranAll Tryz.prog stov1 265 stOf50 = true:=by decide +kernel
noncomputable def stOf51 : List (AV × AV):=[
  ((.cons (.agg (.cons (bxI 0 0 0 12 9 3) .nil)) .nil),stv249),
  ((.cons (.agg (.cons (bxI 9 0 3 12 9 6) .nil)) .nil),stv250),
  ((.cons (.agg (.cons (bxI 3 0 3 9 3 6) .nil)) .nil),(.tup (.cons (bxi 3 0 3 9 3 6) (.cons (.int .i64 0) .nil)))),
  ((.cons (.agg (.cons (bxI 3 6 3 9 9 6) .nil)) .nil),(.tup (.cons (bxi 3 6 3 9 9 6) (.cons (.int .i64 0) .nil)))),
  ((.cons (.agg (.cons (bxI 6 3 3 9 6 6) .nil)) .nil),(.tup (.cons (bxi 6 3 3 9 6 6) (.cons (.int .i64 0) .nil)))),
  ((.cons (.agg (.cons (bxI 0 0 6 12 9 9) .nil)) .nil),stv251)]
theorem stranOf51 : ranAll Tryz.prog stov1 265 stOf51 = true:=by decide +kernel
noncomputable def stOf52 : List (AV × AV):=[
  ((.cons (.agg (.cons (bxI 9 3 3 12 6 6) .nil)) .nil),stv252),
  ((.cons (.agg (.cons (bxI 0 0 6 15 9 9) .nil)) .nil),stv253)]
theorem stranOf52 : ranAll Tryz.prog stov1 265 stOf52 = true:=by decide +kernel
noncomputable def stOf53 : List (AV × AV):=[
  ((.cons (.agg (.cons (bxI 0 0 0 12 12 4) .nil)) .nil),stv254),
  ((.cons (.agg (.cons (bxI 8 0 4 12 12 8) .nil)) .nil),stv255),
  ((.cons (.agg (.cons (bxI 4 0 4 8 4 8) .nil)) .nil),(.tup (.cons (bxi 4 0 4 8 4 8) (.cons (.int .i64 0) .nil)))),
  ((.cons (.agg (.cons (bxI 4 8 4 8 12 8) .nil)) .nil),stv256),
  ((.cons (.agg (.cons (bxI 4 4 4 8 8 8) .nil)) .nil),(.tup (.cons (bxi 4 4 4 8 8 8) (.cons (.int .i64 0) .nil)))),
  ((.cons stv257 .nil),stv258)]
theorem stranOf53 : ranAll Tryz.prog stov1 265 stOf53 = true:=by decide +kernel
noncomputable def stOf54 : List (AV × AV):=[
  ((.cons (.agg (.cons (bxI 0 0 0 16 12 4) .nil)) .nil),stv259),
  ((.cons stv260 .nil),stv261),
  ((.cons (.agg (.cons (bxI 4 0 4 12 4 8) .nil)) .nil),stv262),
  ((.cons (.agg (.cons (bxI 4 8 4 12 12 8) .nil)) .nil),stv263),
  ((.cons (.agg (.cons (bxI 8 4 4 12 8 8) .nil)) .nil),stv264),
  ((.cons stv265 .nil),stv266)]
theorem stranOf54 : ranAll Tryz.prog stov1 265 stOf54 = true:=by decide +kernel
noncomputable def stOf55 : List (AV × AV):=[
  ((.cons (.agg (.cons (bxI 12 4 4 16 8 8) .nil)) .nil),stv267),
  ((.cons stv268 .nil),stv269)]
theorem stranOf55 : ranAll Tryz.prog stov1 265 stOf55 = true:=by decide +kernel
noncomputable def stOf56 : List (AV × AV):=[
  ((.cons (.agg (.cons (bxI 0 0 0 1 3 3) .nil)) .nil),(.tup (.cons (bxi 0 0 0 1 3 3) (.cons (.int .i64 0) .nil)))),
  ((.cons (.agg (.cons (bxI 1 0 0 2 3 1) .nil)) .nil),stv270),
  ((.cons (.agg (.cons (bxI 1 0 2 2 3 3) .nil)) .nil),stv271),
  ((.cons (.agg (.cons (bxI 1 0 0 3 3 1) .nil)) .nil),(.tup (.cons (bxi 1 0 0 3 3 1) (.cons (.int .i64 0) .nil)))),
  ((.cons (.agg (.cons (bxI 1 0 2 3 3 3) .nil)) .nil),(.tup (.cons (bxi 1 0 2 3 3 3) (.cons (.int .i64 0) .nil)))),
  ((.cons (.agg (.cons (bxI 1 0 0 4 3 1) .nil)) .nil),(.tup (.cons (bxi 1 0 0 4 3 1) (.cons (.int .i64 0) .nil))))]
theorem stranOf56 : ranAll Tryz.prog stov1 265 stOf56 = true:=by decide +kernel
noncomputable def stOf57 : List (AV × AV):=[
  ((.cons (.agg (.cons (bxI 1 0 2 4 3 3) .nil)) .nil),(.tup (.cons (bxi 1 0 2 4 3 3) (.cons (.int .i64 0) .nil)))),
  ((.cons (.agg (.cons (bxI 1 0 0 5 3 1) .nil)) .nil),(.tup (.cons (bxi 1 0 0 5 3 1) (.cons (.int .i64 0) .nil)))),
  ((.cons (.agg (.cons (bxI 1 0 2 5 3 3) .nil)) .nil),(.tup (.cons (bxi 1 0 2 5 3 3) (.cons (.int .i64 0) .nil)))),
  ((.cons (.agg (.cons (bxI 1 0 1 5 1 2) .nil)) .nil),stv273),
  ((.cons (.agg (.cons (bxI 1 2 1 5 3 2) .nil)) .nil),stv274),
  ((.cons (.agg (.cons (bxI 4 1 1 5 2 2) .nil)) .nil),(.tup (.cons (bxo 4 1 1 5 2 2) (.cons (.int .i64 0) .nil))))]
theorem stranOf57 : ranAll Tryz.prog stov1 265 stOf57 = true:=by decide +kernel
noncomputable def stOf58 : List (AV × AV):=[
  ((.cons (.agg (.cons (bxI 0 0 0 2 6 6) .nil)) .nil),(.tup (.cons (bxi 0 0 0 2 6 6) (.cons (.int .i64 0) .nil)))),
  ((.cons (.agg (.cons (bxI 2 0 0 4 6 2) .nil)) .nil),(.tup (.cons (bxi 2 0 0 4 6 2) (.cons (.int .i64 0) .nil)))),
  ((.cons (.agg (.cons (bxI 2 0 4 4 6 6) .nil)) .nil),(.tup (.cons (bxi 2 0 4 4 6 6) (.cons (.int .i64 0) .nil)))),
  ((.cons (.agg (.cons (bxI 2 0 0 6 6 2) .nil)) .nil),(.tup (.cons (bxi 2 0 0 6 6 2) (.cons (.int .i64 0) .nil)))),
  ((.cons (.agg (.cons (bxI 2 0 4 6 6 6) .nil)) .nil),(.tup (.cons (bxi 2 0 4 6 6 6) (.cons (.int .i64 0) .nil)))),
  ((.cons (.agg (.cons (bxI 2 0 0 8 6 2) .nil)) .nil),(.tup (.cons (bxi 2 0 0 8 6 2) (.cons (.int .i64 0) .nil))))]
theorem stranOf58 : ranAll Tryz.prog stov1 265 stOf58 = true:=by decide +kernel
noncomputable def stOf59 : List (AV × AV):=[
  ((.cons (.agg (.cons (bxI 2 0 4 8 6 6) .nil)) .nil),(.tup (.cons (bxi 2 0 4 8 6 6) (.cons (.int .i64 0) .nil)))),
  ((.cons (.agg (.cons (bxI 2 0 0 10 6 2) .nil)) .nil),stv275),
  ((.cons (.agg (.cons (bxI 2 0 4 10 6 6) .nil)) .nil),stv276),
  ((.cons (.agg (.cons (bxI 2 0 2 10 2 4) .nil)) .nil),stv277),
  ((.cons (.agg (.cons (bxI 2 4 2 10 6 4) .nil)) .nil),stv278),
  ((.cons (.agg (.cons (bxI 8 2 2 10 4 4) .nil)) .nil),stv279)]
theorem stranOf59 : ranAll Tryz.prog stov1 265 stOf59 = true:=by decide +kernel
noncomputable def stOf60 : List (AV × AV):=[
  ((.cons (.agg (.cons (bxI 0 0 0 3 9 9) .nil)) .nil),(.tup (.cons (bxi 0 0 0 3 9 9) (.cons (.int .i64 0) .nil)))),
  ((.cons (.agg (.cons (bxI 3 0 0 6 9 3) .nil)) .nil),(.tup (.cons (bxi 3 0 0 6 9 3) (.cons (.int .i64 0) .nil)))),
  ((.cons (.agg (.cons (bxI 3 0 6 6 9 9) .nil)) .nil),(.tup (.cons (bxi 3 0 6 6 9 9) (.cons (.int .i64 0) .nil)))),
  ((.cons (.agg (.cons (bxI 3 0 0 9 9 3) .nil)) .nil),(.tup (.cons (bxi 3 0 0 9 9 3) (.cons (.int .i64 0) .nil)))),
  ((.cons (.agg (.cons (bxI 3 0 6 9 9 9) .nil)) .nil),(.tup (.cons (bxi 3 0 6 9 9 9) (.cons (.int .i64 0) .nil)))),
  ((.cons (.agg (.cons (bxI 3 0 0 12 9 3) .nil)) .nil),stv280)]
theorem stranOf60 : ranAll Tryz.prog stov1 265 stOf60 = true:=by decide +kernel
noncomputable def stOf61 : List (AV × AV):=[
  ((.cons (.agg (.cons (bxI 3 0 6 12 9 9) .nil)) .nil),stv281),
  ((.cons (.agg (.cons (bxI 3 0 0 15 9 3) .nil)) .nil),stv282),
  ((.cons (.agg (.cons (bxI 3 0 6 15 9 9) .nil)) .nil),stv283),
  ((.cons (.agg (.cons (bxI 3 0 3 15 3 6) .nil)) .nil),stv284),
  ((.cons (.agg (.cons (bxI 3 6 3 15 9 6) .nil)) .nil),stv285),
  ((.cons (.agg (.cons (bxI 12 3 3 15 6 6) .nil)) .nil),stv286)]
theorem stranOf61 : ranAll Tryz.prog stov1 265 stOf61 = true:=by decide +kernel
noncomputable def stOf62 : List (AV × AV):=[
  ((.cons (.agg (.cons (bxI 0 0 0 4 12 12) .nil)) .nil),stv287),
  ((.cons (.agg (.cons (bxI 4 0 0 8 12 4) .nil)) .nil),stv288),
  ((.cons (.agg (.cons (bxI 4 0 8 8 12 12) .nil)) .nil),stv289),
  ((.cons (.agg (.cons (bxI 4 0 0 12 12 4) .nil)) .nil),stv290),
  ((.cons stv291 .nil),stv292),
  ((.cons (.agg (.cons (bxI 4 0 0 16 12 4) .nil)) .nil),stv293)]
theorem stranOf62 : ranAll Tryz.prog stov1 265 stOf62 = true:=by decide +kernel
noncomputable def stOf63 : List (AV × AV):=[
  ((.cons stv294 .nil),stv295),
  ((.cons (.agg (.cons (bxI 4 0 0 20 12 4) .nil)) .nil),stv296),
  ((.cons stv297 .nil),stv298),
  ((.cons (.agg (.cons (bxI 4 0 4 20 4 8) .nil)) .nil),stv299),
  ((.cons (.agg (.cons (bxI 4 8 4 20 12 8) .nil)) .nil),stv300),
  ((.cons (.agg (.cons (bxI 16 4 4 20 8 8) .nil)) .nil),stv301)]
theorem stranOf63 : ranAll Tryz.prog stov1 265 stOf63 = true:=by decide +kernel
end Go.Sy
