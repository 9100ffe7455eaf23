/- Runs of dowel/cell.Of. -/
import Derived.Test.YtemoafmennfhhaaGreatDoorStO0
namespace Go.Sy
open Go.RowKit Go.Proofs
set_option linter.unusedVariables false
set_option maxRecDepth 1000000
set_option maxHeartbeats 0
noncomputable def stOf0 : List (AV × AV):=[
  ((.cons (.agg (.cons (bxI 0 0 0 1 1 1) .nil)) .nil),(.tup (.cons (bxo 0 0 0 1 1 1) (.cons (.int .i64 0) .nil)))),
  ((.cons (.agg (.cons (bxI 0 0 1 1 1 2) .nil)) .nil),(.tup (.cons (bxo 0 0 1 1 1 2) (.cons (.int .i64 0) .nil)))),
  ((.cons (.agg (.cons (bxI 0 0 2 1 1 3) .nil)) .nil),(.tup (.cons (bxo 0 0 2 1 1 3) (.cons (.int .i64 0) .nil)))),
  ((.cons (.agg (.cons (bxI 0 0 3 1 1 4) .nil)) .nil),(.tup (.cons (bxo 0 0 3 1 1 4) (.cons (.int .i64 0) .nil)))),
  ((.cons (.agg (.cons (bxI 0 0 4 1 1 5) .nil)) .nil),(.tup (.cons (bxo 0 0 4 1 1 5) (.cons (.int .i64 0) .nil)))),
  ((.cons (.agg (.cons (bxI 0 0 5 1 1 6) .nil)) .nil),(.tup (.cons (bxo 0 0 5 1 1 6) (.cons (.int .i64 0) .nil))))]
theorem stranOf0 : ranAll Tryz.prog stov1 265 stOf0 = true:=by decide +kernel
noncomputable def stOf1 : List (AV × AV):=[
  ((.cons (.agg (.cons (bxI 0 0 0 2 2 2) .nil)) .nil),(.tup (.cons (bxi 0 0 0 2 2 2) (.cons (.int .i64 0) .nil)))),
  ((.cons (.agg (.cons (bxI 0 0 2 2 2 4) .nil)) .nil),(.tup (.cons (bxi 0 0 2 2 2 4) (.cons (.int .i64 0) .nil)))),
  ((.cons (.agg (.cons (bxI 0 0 4 2 2 6) .nil)) .nil),(.tup (.cons (bxi 0 0 4 2 2 6) (.cons (.int .i64 0) .nil)))),
  ((.cons (.agg (.cons (bxI 0 0 6 2 2 8) .nil)) .nil),(.tup (.cons (bxi 0 0 6 2 2 8) (.cons (.int .i64 0) .nil)))),
  ((.cons (.agg (.cons (bxI 0 0 8 2 2 10) .nil)) .nil),stv19),
  ((.cons (.agg (.cons (bxI 0 0 10 2 2 12) .nil)) .nil),stv20)]
theorem stranOf1 : ranAll Tryz.prog stov1 265 stOf1 = true:=by decide +kernel
noncomputable def stOf2 : List (AV × AV):=[
  ((.cons (.agg (.cons (bxI 0 0 0 3 3 3) .nil)) .nil),(.tup (.cons (bxi 0 0 0 3 3 3) (.cons (.int .i64 0) .nil)))),
  ((.cons (.agg (.cons (bxI 0 0 3 3 3 6) .nil)) .nil),(.tup (.cons (bxi 0 0 3 3 3 6) (.cons (.int .i64 0) .nil)))),
  ((.cons (.agg (.cons (bxI 0 0 6 3 3 9) .nil)) .nil),(.tup (.cons (bxi 0 0 6 3 3 9) (.cons (.int .i64 0) .nil)))),
  ((.cons (.agg (.cons (bxI 0 0 9 3 3 12) .nil)) .nil),stv21),
  ((.cons (.agg (.cons (bxI 0 0 12 3 3 15) .nil)) .nil),stv22),
  ((.cons (.agg (.cons (bxI 0 0 15 3 3 18) .nil)) .nil),stv23)]
theorem stranOf2 : ranAll Tryz.prog stov1 265 stOf2 = true:=by decide +kernel
noncomputable def stOf3 : List (AV × AV):=[
  ((.cons (.agg (.cons (bxI 0 0 0 4 4 4) .nil)) .nil),(.tup (.cons (bxi 0 0 0 4 4 4) (.cons (.int .i64 0) .nil)))),
  ((.cons (.agg (.cons (bxI 0 0 4 4 4 8) .nil)) .nil),(.tup (.cons (bxi 0 0 4 4 4 8) (.cons (.int .i64 0) .nil)))),
  ((.cons (.agg (.cons (bxI 0 0 8 4 4 12) .nil)) .nil),stv24),
  ((.cons (.agg (.cons (bxI 0 0 12 4 4 16) .nil)) .nil),stv25),
  ((.cons (.agg (.cons (bxI 0 0 16 4 4 20) .nil)) .nil),stv26),
  ((.cons (.agg (.cons (bxI 0 0 20 4 4 24) .nil)) .nil),stv27)]
theorem stranOf3 : ranAll Tryz.prog stov1 265 stOf3 = true:=by decide +kernel
noncomputable def stOf4 : List (AV × AV):=[
  ((.cons (.agg (.cons (bxI 0 1 0 1 2 1) .nil)) .nil),(.tup (.cons (bxo 0 1 0 1 2 1) (.cons (.int .i64 0) .nil)))),
  ((.cons (.agg (.cons (bxI 2 1 0 3 2 1) .nil)) .nil),(.tup (.cons (bxo 2 1 0 3 2 1) (.cons (.int .i64 0) .nil)))),
  ((.cons (.agg (.cons (bxI 0 0 0 3 1 1) .nil)) .nil),stv28),
  ((.cons (.agg (.cons (bxI 0 2 0 3 3 1) .nil)) .nil),stv29),
  ((.cons stv30 .nil),stv31),
  ((.cons (.agg (.cons (bxI 4 1 0 5 2 1) .nil)) .nil),(.tup (.cons (bxo 4 1 0 5 2 1) (.cons (.int .i64 0) .nil))))]
theorem stranOf4 : ranAll Tryz.prog stov1 265 stOf4 = true:=by decide +kernel
noncomputable def stOf5 : List (AV × AV):=[
  ((.cons (.agg (.cons (bxI 0 0 0 5 1 1) .nil)) .nil),stv34),
  ((.cons (.agg (.cons (bxI 0 2 0 5 3 1) .nil)) .nil),stv35),
  ((.cons stv36 .nil),stv37),
  ((.cons (.agg (.cons (bxI 6 1 0 7 2 1) .nil)) .nil),(.tup (.cons (bxo 6 1 0 7 2 1) (.cons (.int .i64 0) .nil)))),
  ((.cons (.agg (.cons (bxI 0 0 0 7 1 1) .nil)) .nil),stv38),
  ((.cons (.agg (.cons (bxI 0 2 0 7 3 1) .nil)) .nil),stv39)]
theorem stranOf5 : ranAll Tryz.prog stov1 265 stOf5 = true:=by decide +kernel
noncomputable def stOf6 : List (AV × AV):=[
  ((.cons stv40 .nil),stv41)]
theorem stranOf6 : ranAll Tryz.prog stov1 265 stOf6 = true:=by decide +kernel
noncomputable def stOf7 : List (AV × AV):=[
  ((.cons (.agg (.cons (bxI 0 2 0 2 4 2) .nil)) .nil),(.tup (.cons (bxi 0 2 0 2 4 2) (.cons (.int .i64 0) .nil)))),
  ((.cons (.agg (.cons (bxI 4 2 0 6 4 2) .nil)) .nil),(.tup (.cons (bxi 4 2 0 6 4 2) (.cons (.int .i64 0) .nil)))),
  ((.cons (.agg (.cons (bxI 0 0 0 6 2 2) .nil)) .nil),(.tup (.cons (bxi 0 0 0 6 2 2) (.cons (.int .i64 0) .nil)))),
  ((.cons (.agg (.cons (bxI 0 4 0 6 6 2) .nil)) .nil),(.tup (.cons (bxi 0 4 0 6 6 2) (.cons (.int .i64 0) .nil)))),
  ((.cons stv42 .nil),stv43),
  ((.cons (.agg (.cons (bxI 8 2 0 10 4 2) .nil)) .nil),stv44)]
theorem stranOf7 : ranAll Tryz.prog stov1 265 stOf7 = true:=by decide +kernel
noncomputable def stOf8 : List (AV × AV):=[
  ((.cons (.agg (.cons (bxI 0 0 0 10 2 2) .nil)) .nil),stv45),
  ((.cons (.agg (.cons (bxI 0 4 0 10 6 2) .nil)) .nil),stv46),
  ((.cons stv47 .nil),stv48),
  ((.cons (.agg (.cons (bxI 12 2 0 14 4 2) .nil)) .nil),stv49),
  ((.cons (.agg (.cons (bxI 0 0 0 14 2 2) .nil)) .nil),stv50),
  ((.cons (.agg (.cons (bxI 0 4 0 14 6 2) .nil)) .nil),stv51)]
theorem stranOf8 : ranAll Tryz.prog stov1 265 stOf8 = true:=by decide +kernel
noncomputable def stOf9 : List (AV × AV):=[
  ((.cons stv52 .nil),stv53)]
theorem stranOf9 : ranAll Tryz.prog stov1 265 stOf9 = true:=by decide +kernel
noncomputable def stOf10 : List (AV × AV):=[
  ((.cons (.agg (.cons (bxI 0 3 0 3 6 3) .nil)) .nil),(.tup (.cons (bxi 0 3 0 3 6 3) (.cons (.int .i64 0) .nil)))),
  ((.cons (.agg (.cons (bxI 6 3 0 9 6 3) .nil)) .nil),(.tup (.cons (bxi 6 3 0 9 6 3) (.cons (.int .i64 0) .nil)))),
  ((.cons (.agg (.cons (bxI 0 0 0 9 3 3) .nil)) .nil),(.tup (.cons (bxi 0 0 0 9 3 3) (.cons (.int .i64 0) .nil)))),
  ((.cons (.agg (.cons (bxI 0 6 0 9 9 3) .nil)) .nil),(.tup (.cons (bxi 0 6 0 9 9 3) (.cons (.int .i64 0) .nil)))),
  ((.cons stv54 .nil),stv55),
  ((.cons (.agg (.cons (bxI 12 3 0 15 6 3) .nil)) .nil),stv56)]
theorem stranOf10 : ranAll Tryz.prog stov1 265 stOf10 = true:=by decide +kernel
noncomputable def stOf11 : List (AV × AV):=[
  ((.cons (.agg (.cons (bxI 0 0 0 15 3 3) .nil)) .nil),stv57),
  ((.cons (.agg (.cons (bxI 0 6 0 15 9 3) .nil)) .nil),stv58),
  ((.cons stv59 .nil),stv60),
  ((.cons (.agg (.cons (bxI 18 3 0 21 6 3) .nil)) .nil),stv61),
  ((.cons (.agg (.cons (bxI 0 0 0 21 3 3) .nil)) .nil),stv62),
  ((.cons (.agg (.cons (bxI 0 6 0 21 9 3) .nil)) .nil),stv63)]
theorem stranOf11 : ranAll Tryz.prog stov1 265 stOf11 = true:=by decide +kernel
noncomputable def stOf12 : List (AV × AV):=[
  ((.cons stv64 .nil),stv65)]
theorem stranOf12 : ranAll Tryz.prog stov1 265 stOf12 = true:=by decide +kernel
noncomputable def stOf13 : List (AV × AV):=[
  ((.cons (.agg (.cons (bxI 0 4 0 4 8 4) .nil)) .nil),(.tup (.cons (bxi 0 4 0 4 8 4) (.cons (.int .i64 0) .nil)))),
  ((.cons (.agg (.cons (bxI 8 4 0 12 8 4) .nil)) .nil),stv66),
  ((.cons (.agg (.cons (bxI 0 0 0 12 4 4) .nil)) .nil),stv67),
  ((.cons (.agg (.cons (bxI 0 8 0 12 12 4) .nil)) .nil),stv68),
  ((.cons stv69 .nil),stv70),
  ((.cons (.agg (.cons (bxI 16 4 0 20 8 4) .nil)) .nil),stv71)]
theorem stranOf13 : ranAll Tryz.prog stov1 265 stOf13 = true:=by decide +kernel
noncomputable def stOf14 : List (AV × AV):=[
  ((.cons (.agg (.cons (bxI 0 0 0 20 4 4) .nil)) .nil),stv72),
  ((.cons (.agg (.cons (bxI 0 8 0 20 12 4) .nil)) .nil),stv73),
  ((.cons stv74 .nil),stv75),
  ((.cons (.agg (.cons (bxI 24 4 0 28 8 4) .nil)) .nil),stv76),
  ((.cons (.agg (.cons (bxI 0 0 0 28 4 4) .nil)) .nil),stv77),
  ((.cons (.agg (.cons (bxI 0 8 0 28 12 4) .nil)) .nil),stv78)]
theorem stranOf14 : ranAll Tryz.prog stov1 265 stOf14 = true:=by decide +kernel
noncomputable def stOf15 : List (AV × AV):=[
  ((.cons stv79 .nil),stv80)]
theorem stranOf15 : ranAll Tryz.prog stov1 265 stOf15 = true:=by decide +kernel
end Go.Sy
