/- Runs of dowel/cell.Of. -/
import Derived.Test.YtemoafmennfhhaaGreatDoorStO0
namespace Go.Sy
open Go.RowKit Go.Proofs
set_option linter.unusedVariables false
set_option maxRecDepth 1000000
set_option maxHeartbeats 0
noncomputable def stOf16 : List (AV × AV):=[
  ((.cons (.agg (.cons (bxI 4 0 1 5 1 2) .nil)) .nil),(.tup (.cons (bxo 4 0 1 5 1 2) (.cons (.int .i64 0) .nil)))),
  ((.cons (.agg (.cons (bxI 0 0 2 2 1 3) .nil)) .nil),stv81),
  ((.cons (.agg (.cons (bxI 3 0 2 5 1 3) .nil)) .nil),stv82),
  ((.cons (.agg (.cons (bxI 1 0 1 4 1 2) .nil)) .nil),stv83),
  ((.cons (.agg (.cons (bxI 2 0 2 3 1 4) .nil)) .nil),stv84),
  ((.cons (.agg (.cons (bxI 0 0 0 5 2 1) .nil)) .nil),(.tup (.cons (bxi 0 0 0 5 2 1) (.cons (.int .i64 0) .nil))))]
theorem stranOf16 : ranAll Tryz.prog stov1 265 stOf16 = true:=by decide +kernel
noncomputable def stOf17 : List (AV × AV):=[
  ((.cons (.agg (.cons (bxI 0 0 1 1 2 2) .nil)) .nil),stv85),
  ((.cons (.agg (.cons (bxI 4 0 1 5 2 2) .nil)) .nil),stv86),
  ((.cons (.agg (.cons (bxI 0 0 2 2 2 3) .nil)) .nil),(.tup (.cons (bxi 0 0 2 2 2 3) (.cons (.int .i64 0) .nil)))),
  ((.cons (.agg (.cons (bxI 3 0 2 5 2 3) .nil)) .nil),(.tup (.cons (bxi 3 0 2 5 2 3) (.cons (.int .i64 0) .nil)))),
  ((.cons (.agg (.cons (bxI 1 1 1 4 2 2) .nil)) .nil),stv87),
  ((.cons (.agg (.cons (bxI 2 1 2 3 2 4) .nil)) .nil),stv88)]
theorem stranOf17 : ranAll Tryz.prog stov1 265 stOf17 = true:=by decide +kernel
noncomputable def stOf18 : List (AV × AV):=[
  ((.cons (.agg (.cons (bxI 0 0 0 5 3 1) .nil)) .nil),(.tup (.cons (bxi 0 0 0 5 3 1) (.cons (.int .i64 0) .nil)))),
  ((.cons (.agg (.cons (bxI 0 0 1 1 3 2) .nil)) .nil),stv91),
  ((.cons (.agg (.cons (bxI 4 0 1 5 3 2) .nil)) .nil),stv92),
  ((.cons (.agg (.cons (bxI 0 0 2 2 3 3) .nil)) .nil),(.tup (.cons (bxi 0 0 2 2 3 3) (.cons (.int .i64 0) .nil)))),
  ((.cons (.agg (.cons (bxI 3 0 2 5 3 3) .nil)) .nil),(.tup (.cons (bxi 3 0 2 5 3 3) (.cons (.int .i64 0) .nil)))),
  ((.cons (.agg (.cons (bxI 1 2 1 4 3 2) .nil)) .nil),stv93)]
theorem stranOf18 : ranAll Tryz.prog stov1 265 stOf18 = true:=by decide +kernel
noncomputable def stOf19 : List (AV × AV):=[
  ((.cons (.agg (.cons (bxI 2 2 2 3 3 4) .nil)) .nil),stv94)]
theorem stranOf19 : ranAll Tryz.prog stov1 265 stOf19 = true:=by decide +kernel
noncomputable def stOf20 : List (AV × AV):=[
  ((.cons (.agg (.cons (bxI 8 0 2 10 2 4) .nil)) .nil),stv95),
  ((.cons (.agg (.cons (bxI 0 0 4 4 2 6) .nil)) .nil),(.tup (.cons (bxi 0 0 4 4 2 6) (.cons (.int .i64 0) .nil)))),
  ((.cons (.agg (.cons (bxI 6 0 4 10 2 6) .nil)) .nil),stv96),
  ((.cons (.agg (.cons (bxI 2 0 2 8 2 4) .nil)) .nil),(.tup (.cons (bxi 2 0 2 8 2 4) (.cons (.int .i64 0) .nil)))),
  ((.cons (.agg (.cons (bxI 4 0 4 6 2 8) .nil)) .nil),(.tup (.cons (bxi 4 0 4 6 2 8) (.cons (.int .i64 0) .nil)))),
  ((.cons (.agg (.cons (bxI 0 0 0 10 4 2) .nil)) .nil),stv97)]
theorem stranOf20 : ranAll Tryz.prog stov1 265 stOf20 = true:=by decide +kernel
noncomputable def stOf21 : List (AV × AV):=[
  ((.cons (.agg (.cons (bxI 0 0 2 2 4 4) .nil)) .nil),(.tup (.cons (bxi 0 0 2 2 4 4) (.cons (.int .i64 0) .nil)))),
  ((.cons (.agg (.cons (bxI 8 0 2 10 4 4) .nil)) .nil),stv98),
  ((.cons (.agg (.cons (bxI 0 0 4 4 4 6) .nil)) .nil),(.tup (.cons (bxi 0 0 4 4 4 6) (.cons (.int .i64 0) .nil)))),
  ((.cons (.agg (.cons (bxI 6 0 4 10 4 6) .nil)) .nil),stv99),
  ((.cons (.agg (.cons (bxI 2 2 2 8 4 4) .nil)) .nil),(.tup (.cons (bxi 2 2 2 8 4 4) (.cons (.int .i64 0) .nil)))),
  ((.cons (.agg (.cons (bxI 4 2 4 6 4 8) .nil)) .nil),(.tup (.cons (bxi 4 2 4 6 4 8) (.cons (.int .i64 0) .nil))))]
theorem stranOf21 : ranAll Tryz.prog stov1 265 stOf21 = true:=by decide +kernel
noncomputable def stOf22 : List (AV × AV):=[
  ((.cons (.agg (.cons (bxI 0 0 0 10 6 2) .nil)) .nil),stv100),
  ((.cons (.agg (.cons (bxI 0 0 2 2 6 4) .nil)) .nil),(.tup (.cons (bxi 0 0 2 2 6 4) (.cons (.int .i64 0) .nil)))),
  ((.cons (.agg (.cons (bxI 8 0 2 10 6 4) .nil)) .nil),stv101),
  ((.cons (.agg (.cons (bxI 0 0 4 4 6 6) .nil)) .nil),(.tup (.cons (bxi 0 0 4 4 6 6) (.cons (.int .i64 0) .nil)))),
  ((.cons (.agg (.cons (bxI 6 0 4 10 6 6) .nil)) .nil),stv102),
  ((.cons (.agg (.cons (bxI 2 4 2 8 6 4) .nil)) .nil),(.tup (.cons (bxi 2 4 2 8 6 4) (.cons (.int .i64 0) .nil))))]
theorem stranOf22 : ranAll Tryz.prog stov1 265 stOf22 = true:=by decide +kernel
noncomputable def stOf23 : List (AV × AV):=[
  ((.cons (.agg (.cons (bxI 4 4 4 6 6 8) .nil)) .nil),(.tup (.cons (bxi 4 4 4 6 6 8) (.cons (.int .i64 0) .nil))))]
theorem stranOf23 : ranAll Tryz.prog stov1 265 stOf23 = true:=by decide +kernel
noncomputable def stOf24 : List (AV × AV):=[
  ((.cons (.agg (.cons (bxI 12 0 3 15 3 6) .nil)) .nil),stv103),
  ((.cons (.agg (.cons (bxI 0 0 6 6 3 9) .nil)) .nil),(.tup (.cons (bxi 0 0 6 6 3 9) (.cons (.int .i64 0) .nil)))),
  ((.cons (.agg (.cons (bxI 9 0 6 15 3 9) .nil)) .nil),stv104),
  ((.cons (.agg (.cons (bxI 3 0 3 12 3 6) .nil)) .nil),stv105),
  ((.cons (.agg (.cons (bxI 6 0 6 9 3 12) .nil)) .nil),stv106),
  ((.cons (.agg (.cons (bxI 0 0 0 15 6 3) .nil)) .nil),stv107)]
theorem stranOf24 : ranAll Tryz.prog stov1 265 stOf24 = true:=by decide +kernel
noncomputable def stOf25 : List (AV × AV):=[
  ((.cons (.agg (.cons (bxI 0 0 3 3 6 6) .nil)) .nil),(.tup (.cons (bxi 0 0 3 3 6 6) (.cons (.int .i64 0) .nil)))),
  ((.cons (.agg (.cons (bxI 12 0 3 15 6 6) .nil)) .nil),stv108),
  ((.cons (.agg (.cons (bxI 0 0 6 6 6 9) .nil)) .nil),(.tup (.cons (bxi 0 0 6 6 6 9) (.cons (.int .i64 0) .nil)))),
  ((.cons (.agg (.cons (bxI 9 0 6 15 6 9) .nil)) .nil),stv109),
  ((.cons (.agg (.cons (bxI 3 3 3 12 6 6) .nil)) .nil),stv110),
  ((.cons (.agg (.cons (bxI 6 3 6 9 6 12) .nil)) .nil),stv111)]
theorem stranOf25 : ranAll Tryz.prog stov1 265 stOf25 = true:=by decide +kernel
noncomputable def stOf26 : List (AV × AV):=[
  ((.cons (.agg (.cons (bxI 0 0 0 15 9 3) .nil)) .nil),stv112),
  ((.cons (.agg (.cons (bxI 0 0 3 3 9 6) .nil)) .nil),(.tup (.cons (bxi 0 0 3 3 9 6) (.cons (.int .i64 0) .nil)))),
  ((.cons (.agg (.cons (bxI 12 0 3 15 9 6) .nil)) .nil),stv113),
  ((.cons (.agg (.cons (bxI 0 0 6 6 9 9) .nil)) .nil),(.tup (.cons (bxi 0 0 6 6 9 9) (.cons (.int .i64 0) .nil)))),
  ((.cons (.agg (.cons (bxI 9 0 6 15 9 9) .nil)) .nil),stv114),
  ((.cons (.agg (.cons (bxI 3 6 3 12 9 6) .nil)) .nil),stv115)]
theorem stranOf26 : ranAll Tryz.prog stov1 265 stOf26 = true:=by decide +kernel
noncomputable def stOf27 : List (AV × AV):=[
  ((.cons (.agg (.cons (bxI 6 6 6 9 9 12) .nil)) .nil),stv116)]
theorem stranOf27 : ranAll Tryz.prog stov1 265 stOf27 = true:=by decide +kernel
noncomputable def stOf28 : List (AV × AV):=[
  ((.cons (.agg (.cons (bxI 16 0 4 20 4 8) .nil)) .nil),stv117),
  ((.cons (.agg (.cons (bxI 0 0 8 8 4 12) .nil)) .nil),stv118),
  ((.cons stv119 .nil),stv120),
  ((.cons (.agg (.cons (bxI 4 0 4 16 4 8) .nil)) .nil),stv121),
  ((.cons (.agg (.cons (bxI 8 0 8 12 4 16) .nil)) .nil),stv122),
  ((.cons (.agg (.cons (bxI 0 0 0 20 8 4) .nil)) .nil),stv123)]
theorem stranOf28 : ranAll Tryz.prog stov1 265 stOf28 = true:=by decide +kernel
noncomputable def stOf29 : List (AV × AV):=[
  ((.cons (.agg (.cons (bxI 0 0 4 4 8 8) .nil)) .nil),(.tup (.cons (bxi 0 0 4 4 8 8) (.cons (.int .i64 0) .nil)))),
  ((.cons (.agg (.cons (bxI 16 0 4 20 8 8) .nil)) .nil),stv124),
  ((.cons (.agg (.cons (bxI 0 0 8 8 8 12) .nil)) .nil),stv125),
  ((.cons stv126 .nil),stv127),
  ((.cons (.agg (.cons (bxI 4 4 4 16 8 8) .nil)) .nil),stv128),
  ((.cons (.agg (.cons (bxI 8 4 8 12 8 16) .nil)) .nil),stv129)]
theorem stranOf29 : ranAll Tryz.prog stov1 265 stOf29 = true:=by decide +kernel
noncomputable def stOf30 : List (AV × AV):=[
  ((.cons (.agg (.cons (bxI 0 0 0 20 12 4) .nil)) .nil),stv130),
  ((.cons (.agg (.cons (bxI 0 0 4 4 12 8) .nil)) .nil),stv131),
  ((.cons stv132 .nil),stv133),
  ((.cons (.agg (.cons (bxI 0 0 8 8 12 12) .nil)) .nil),stv134),
  ((.cons stv135 .nil),stv136),
  ((.cons (.agg (.cons (bxI 4 8 4 16 12 8) .nil)) .nil),stv137)]
theorem stranOf30 : ranAll Tryz.prog stov1 265 stOf30 = true:=by decide +kernel
noncomputable def stOf31 : List (AV × AV):=[
  ((.cons stv138 .nil),stv139)]
theorem stranOf31 : ranAll Tryz.prog stov1 265 stOf31 = true:=by decide +kernel
end Go.Sy
