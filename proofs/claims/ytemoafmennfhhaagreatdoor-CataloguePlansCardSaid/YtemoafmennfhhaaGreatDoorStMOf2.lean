/- Runs of dowel/cell.Of. -/
import Derived.Test.YtemoafmennfhhaaGreatDoorStO0
namespace Go.Sy
open Go.RowKit Go.Proofs
set_option linter.unusedVariables false
set_option maxRecDepth 1000000
set_option maxHeartbeats 0
noncomputable def stOf32 : List (AV × AV):=[
  ((.cons (.agg (.cons (bxI 0 0 0 1 5 1) .nil)) .nil),stv140),
  ((.cons (.agg (.cons (bxI 6 0 0 7 5 1) .nil)) .nil),stv141),
  ((.cons (.agg (.cons (bxI 1 0 0 6 1 1) .nil)) .nil),stv142),
  ((.cons (.agg (.cons (bxI 1 4 0 6 5 1) .nil)) .nil),stv143),
  ((.cons stv144 .nil),stv145),
  ((.cons stv146 .nil),stv147)]
theorem stranOf32 : ranAll Tryz.prog stov1 265 stOf32 = true:=by decide +kernel
noncomputable def stOf33 : List (AV × AV):=[
  ((.cons stv148 .nil),stv149),
  ((.cons (.agg (.cons (bxI 5 2 2 10 3 3) .nil)) .nil),stv150),
  ((.cons (.agg (.cons (bxI 8 0 0 9 5 1) .nil)) .nil),stv151),
  ((.cons (.agg (.cons (bxI 14 0 0 15 5 1) .nil)) .nil),stv152),
  ((.cons (.agg (.cons (bxI 9 0 0 14 1 1) .nil)) .nil),stv153),
  ((.cons (.agg (.cons (bxI 9 4 0 14 5 1) .nil)) .nil),stv154)]
theorem stranOf33 : ranAll Tryz.prog stov1 265 stOf33 = true:=by decide +kernel
noncomputable def stOf34 : List (AV × AV):=[
  ((.cons stv155 .nil),stv156),
  ((.cons stv157 .nil),stv158),
  ((.cons stv159 .nil),stv160),
  ((.cons (.agg (.cons (bxI 13 2 2 18 3 3) .nil)) .nil),stv161)]
theorem stranOf34 : ranAll Tryz.prog stov1 265 stOf34 = true:=by decide +kernel
noncomputable def stOf35 : List (AV × AV):=[
  ((.cons (.agg (.cons (bxI 0 0 0 2 10 2) .nil)) .nil),stv162),
  ((.cons stv163 .nil),stv164),
  ((.cons (.agg (.cons (bxI 2 0 0 12 2 2) .nil)) .nil),stv165),
  ((.cons (.agg (.cons (bxI 2 8 0 12 10 2) .nil)) .nil),stv166),
  ((.cons stv167 .nil),stv168),
  ((.cons stv169 .nil),stv170)]
theorem stranOf35 : ranAll Tryz.prog stov1 265 stOf35 = true:=by decide +kernel
noncomputable def stOf36 : List (AV × AV):=[
  ((.cons stv171 .nil),stv172),
  ((.cons (.agg (.cons (bxI 10 4 4 20 6 6) .nil)) .nil),stv173),
  ((.cons stv174 .nil),stv175),
  ((.cons stv176 .nil),stv177),
  ((.cons (.agg (.cons (bxI 18 0 0 28 2 2) .nil)) .nil),stv178),
  ((.cons stv179 .nil),stv180)]
theorem stranOf36 : ranAll Tryz.prog stov1 265 stOf36 = true:=by decide +kernel
noncomputable def stOf37 : List (AV × AV):=[
  ((.cons stv181 .nil),stv182),
  ((.cons stv183 .nil),stv184),
  ((.cons stv185 .nil),stv186),
  ((.cons (.agg (.cons (bxI 26 4 4 36 6 6) .nil)) .nil),stv187)]
theorem stranOf37 : ranAll Tryz.prog stov1 265 stOf37 = true:=by decide +kernel
noncomputable def stOf38 : List (AV × AV):=[
  ((.cons (.agg (.cons (bxI 0 0 0 3 15 3) .nil)) .nil),stv188),
  ((.cons stv189 .nil),stv190),
  ((.cons (.agg (.cons (bxI 3 0 0 18 3 3) .nil)) .nil),stv191),
  ((.cons stv192 .nil),stv193),
  ((.cons stv194 .nil),stv195),
  ((.cons stv196 .nil),stv197)]
theorem stranOf38 : ranAll Tryz.prog stov1 265 stOf38 = true:=by decide +kernel
noncomputable def stOf39 : List (AV × AV):=[
  ((.cons stv198 .nil),stv199),
  ((.cons (.agg (.cons (bxI 15 6 6 30 9 9) .nil)) .nil),stv200),
  ((.cons stv201 .nil),stv202),
  ((.cons stv203 .nil),stv204),
  ((.cons (.agg (.cons (bxI 27 0 0 42 3 3) .nil)) .nil),stv205),
  ((.cons stv206 .nil),stv207)]
theorem stranOf39 : ranAll Tryz.prog stov1 265 stOf39 = true:=by decide +kernel
noncomputable def stOf40 : List (AV × AV):=[
  ((.cons stv208 .nil),stv209),
  ((.cons stv210 .nil),stv211),
  ((.cons stv212 .nil),stv213),
  ((.cons (.agg (.cons (bxI 39 6 6 54 9 9) .nil)) .nil),stv214)]
theorem stranOf40 : ranAll Tryz.prog stov1 265 stOf40 = true:=by decide +kernel
noncomputable def stOf41 : List (AV × AV):=[
  ((.cons (.agg (.cons (bxI 0 0 0 4 20 4) .nil)) .nil),stv215),
  ((.cons stv216 .nil),stv217),
  ((.cons (.agg (.cons (bxI 4 0 0 24 4 4) .nil)) .nil),stv218),
  ((.cons stv219 .nil),stv220),
  ((.cons stv221 .nil),stv222),
  ((.cons stv223 .nil),stv224)]
theorem stranOf41 : ranAll Tryz.prog stov1 265 stOf41 = true:=by decide +kernel
noncomputable def stOf42 : List (AV × AV):=[
  ((.cons stv225 .nil),stv226),
  ((.cons stv227 .nil),stv228),
  ((.cons stv229 .nil),stv230),
  ((.cons stv231 .nil),stv232),
  ((.cons (.agg (.cons (bxI 36 0 0 56 4 4) .nil)) .nil),stv233),
  ((.cons stv234 .nil),stv235)]
theorem stranOf42 : ranAll Tryz.prog stov1 265 stOf42 = true:=by decide +kernel
noncomputable def stOf43 : List (AV × AV):=[
  ((.cons stv236 .nil),stv237),
  ((.cons stv238 .nil),stv239),
  ((.cons stv240 .nil),stv241),
  ((.cons stv242 .nil),stv243)]
theorem stranOf43 : ranAll Tryz.prog stov1 265 stOf43 = true:=by decide +kernel
noncomputable def stOf44 : List (AV × AV):=[
  ((.cons (.agg (.cons (bxI 0 0 0 3 3 1) .nil)) .nil),(.tup (.cons (bxi 0 0 0 3 3 1) (.cons (.int .i64 0) .nil)))),
  ((.cons (.agg (.cons (bxI 2 0 1 3 3 2) .nil)) .nil),stv244),
  ((.cons (.agg (.cons (bxI 1 0 1 2 1 2) .nil)) .nil),(.tup (.cons (bxo 1 0 1 2 1 2) (.cons (.int .i64 0) .nil)))),
  ((.cons (.agg (.cons (bxI 1 2 1 2 3 2) .nil)) .nil),(.tup (.cons (bxo 1 2 1 2 3 2) (.cons (.int .i64 0) .nil)))),
  ((.cons (.agg (.cons (bxI 1 1 1 2 2 2) .nil)) .nil),(.tup (.cons (bxo 1 1 1 2 2 2) (.cons (.int .i64 0) .nil)))),
  ((.cons (.agg (.cons (bxI 0 0 2 3 3 3) .nil)) .nil),(.tup (.cons (bxi 0 0 2 3 3 3) (.cons (.int .i64 0) .nil))))]
theorem stranOf44 : ranAll Tryz.prog stov1 265 stOf44 = true:=by decide +kernel
noncomputable def stOf45 : List (AV × AV):=[
  ((.cons (.agg (.cons (bxI 0 0 0 4 3 1) .nil)) .nil),(.tup (.cons (bxi 0 0 0 4 3 1) (.cons (.int .i64 0) .nil)))),
  ((.cons (.agg (.cons (bxI 3 0 1 4 3 2) .nil)) .nil),stv245),
  ((.cons (.agg (.cons (bxI 1 0 1 3 1 2) .nil)) .nil),stv246),
  ((.cons (.agg (.cons (bxI 1 2 1 3 3 2) .nil)) .nil),stv247),
  ((.cons (.agg (.cons (bxI 2 1 1 3 2 2) .nil)) .nil),(.tup (.cons (bxo 2 1 1 3 2 2) (.cons (.int .i64 0) .nil)))),
  ((.cons (.agg (.cons (bxI 0 0 2 4 3 3) .nil)) .nil),(.tup (.cons (bxi 0 0 2 4 3 3) (.cons (.int .i64 0) .nil))))]
theorem stranOf45 : ranAll Tryz.prog stov1 265 stOf45 = true:=by decide +kernel
noncomputable def stOf46 : List (AV × AV):=[
  ((.cons (.agg (.cons (bxI 3 1 1 4 2 2) .nil)) .nil),(.tup (.cons (bxo 3 1 1 4 2 2) (.cons (.int .i64 0) .nil)))),
  ((.cons (.agg (.cons (bxI 0 0 2 5 3 3) .nil)) .nil),(.tup (.cons (bxi 0 0 2 5 3 3) (.cons (.int .i64 0) .nil))))]
theorem stranOf46 : ranAll Tryz.prog stov1 265 stOf46 = true:=by decide +kernel
noncomputable def stOf47 : List (AV × AV):=[
  ((.cons (.agg (.cons (bxI 0 0 0 6 6 2) .nil)) .nil),(.tup (.cons (bxi 0 0 0 6 6 2) (.cons (.int .i64 0) .nil)))),
  ((.cons (.agg (.cons (bxI 4 0 2 6 6 4) .nil)) .nil),(.tup (.cons (bxi 4 0 2 6 6 4) (.cons (.int .i64 0) .nil)))),
  ((.cons (.agg (.cons (bxI 2 0 2 4 2 4) .nil)) .nil),(.tup (.cons (bxi 2 0 2 4 2 4) (.cons (.int .i64 0) .nil)))),
  ((.cons (.agg (.cons (bxI 2 4 2 4 6 4) .nil)) .nil),(.tup (.cons (bxi 2 4 2 4 6 4) (.cons (.int .i64 0) .nil)))),
  ((.cons (.agg (.cons (bxI 2 2 2 4 4 4) .nil)) .nil),(.tup (.cons (bxi 2 2 2 4 4 4) (.cons (.int .i64 0) .nil)))),
  ((.cons (.agg (.cons (bxI 0 0 4 6 6 6) .nil)) .nil),(.tup (.cons (bxi 0 0 4 6 6 6) (.cons (.int .i64 0) .nil))))]
theorem stranOf47 : ranAll Tryz.prog stov1 265 stOf47 = true:=by decide +kernel
end Go.Sy
