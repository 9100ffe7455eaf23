/- Runs of dowel/cell.Of. -/
import Derived.Test.YtialjngnlekplaaGreatDoorStO0
namespace Go.Sy
open Go.RowKit Go.Proofs
set_option linter.unusedVariables false
set_option maxRecDepth 1000000
set_option maxHeartbeats 0
noncomputable def stOf32 : List (AV × AV) := [
  ((.cons stv173 .nil), stv174),
  ((.cons (.agg (.cons (bxI 27 0 0 42 3 3) .nil)) .nil), stv175),
  ((.cons stv176 .nil), stv177),
  ((.cons stv178 .nil), stv179),
  ((.cons stv180 .nil), stv181)]
theorem stranOf32 : ranAll Tryz.prog stov1 175 stOf32 = true := by decide +kernel
noncomputable def stOf33 : List (AV × AV) := [
  ((.cons stv182 .nil), stv183),
  ((.cons (.agg (.cons (bxI 39 6 6 54 9 9) .nil)) .nil), stv184),
  ((.cons stv185 .nil), stv186),
  ((.cons stv187 .nil), stv188),
  ((.cons (.agg (.cons (bxI 18 0 0 28 2 2) .nil)) .nil), stv189)]
theorem stranOf33 : ranAll Tryz.prog stov1 175 stOf33 = true := by decide +kernel
noncomputable def stOf34 : List (AV × AV) := [
  ((.cons stv190 .nil), stv191),
  ((.cons stv192 .nil), stv193),
  ((.cons stv194 .nil), stv195),
  ((.cons stv196 .nil), stv197),
  ((.cons (.agg (.cons (bxI 26 4 4 36 6 6) .nil)) .nil), stv198)]
theorem stranOf34 : ranAll Tryz.prog stov1 175 stOf34 = true := by decide +kernel
noncomputable def stOf35 : List (AV × AV) := [
  ((.cons (.agg (.cons (bxI 0 0 0 20 8 4) .nil)) .nil), stv199),
  ((.cons (.agg (.cons (bxI 0 0 4 4 8 8) .nil)) .nil), (.tup (.cons (bxi 0 0 4 4 8 8) (.cons (.int .i64 0) .nil)))),
  ((.cons (.agg (.cons (bxI 16 0 4 20 8 8) .nil)) .nil), stv200),
  ((.cons (.agg (.cons (bxI 0 0 8 8 8 12) .nil)) .nil), stv201),
  ((.cons stv202 .nil), stv203)]
theorem stranOf35 : ranAll Tryz.prog stov1 175 stOf35 = true := by decide +kernel
noncomputable def stOf36 : List (AV × AV) := [
  ((.cons (.agg (.cons (bxI 4 4 4 16 8 8) .nil)) .nil), stv204),
  ((.cons (.agg (.cons (bxI 8 4 8 12 8 16) .nil)) .nil), stv205),
  ((.cons (.agg (.cons (bxI 0 0 0 5 3 1) .nil)) .nil), (.tup (.cons (bxi 0 0 0 5 3 1) (.cons (.int .i64 0) .nil)))),
  ((.cons (.agg (.cons (bxI 0 0 1 1 3 2) .nil)) .nil), stv206),
  ((.cons (.agg (.cons (bxI 4 0 1 5 3 2) .nil)) .nil), stv207)]
theorem stranOf36 : ranAll Tryz.prog stov1 175 stOf36 = true := by decide +kernel
noncomputable def stOf37 : List (AV × AV) := [
  ((.cons (.agg (.cons (bxI 1 0 1 4 1 2) .nil)) .nil), stv208),
  ((.cons (.agg (.cons (bxI 1 2 1 4 3 2) .nil)) .nil), stv209),
  ((.cons (.agg (.cons (bxI 3 1 1 4 2 2) .nil)) .nil), (.tup (.cons (bxo 3 1 1 4 2 2) (.cons (.int .i64 0) .nil)))),
  ((.cons (.agg (.cons (bxI 0 0 2 5 3 3) .nil)) .nil), (.tup (.cons (bxi 0 0 2 5 3 3) (.cons (.int .i64 0) .nil)))),
  ((.cons (.agg (.cons (bxI 0 0 0 10 6 2) .nil)) .nil), stv210)]
theorem stranOf37 : ranAll Tryz.prog stov1 175 stOf37 = true := by decide +kernel
noncomputable def stOf38 : List (AV × AV) := [
  ((.cons (.agg (.cons (bxI 0 0 2 2 6 4) .nil)) .nil), (.tup (.cons (bxi 0 0 2 2 6 4) (.cons (.int .i64 0) .nil)))),
  ((.cons (.agg (.cons (bxI 8 0 2 10 6 4) .nil)) .nil), stv211),
  ((.cons (.agg (.cons (bxI 0 0 4 4 6 6) .nil)) .nil), (.tup (.cons (bxi 0 0 4 4 6 6) (.cons (.int .i64 0) .nil)))),
  ((.cons (.agg (.cons (bxI 6 0 4 10 6 6) .nil)) .nil), stv212),
  ((.cons (.agg (.cons (bxI 4 4 4 6 6 8) .nil)) .nil), (.tup (.cons (bxi 4 4 4 6 6 8) (.cons (.int .i64 0) .nil))))]
theorem stranOf38 : ranAll Tryz.prog stov1 175 stOf38 = true := by decide +kernel
noncomputable def stOf39 : List (AV × AV) := [
  ((.cons (.agg (.cons (bxI 4 1 0 5 2 1) .nil)) .nil), (.tup (.cons (bxo 4 1 0 5 2 1) (.cons (.int .i64 0) .nil)))),
  ((.cons (.agg (.cons (bxI 6 1 0 7 2 1) .nil)) .nil), (.tup (.cons (bxo 6 1 0 7 2 1) (.cons (.int .i64 0) .nil)))),
  ((.cons (.agg (.cons (bxI 0 0 0 7 1 1) .nil)) .nil), stv213),
  ((.cons (.agg (.cons (bxI 0 2 0 7 3 1) .nil)) .nil), stv214),
  ((.cons stv215 .nil), stv216)]
theorem stranOf39 : ranAll Tryz.prog stov1 175 stOf39 = true := by decide +kernel
noncomputable def stOf40 : List (AV × AV) := [
  ((.cons stv217 .nil), stv218),
  ((.cons (.agg (.cons (bxI 1 0 0 5 3 1) .nil)) .nil), (.tup (.cons (bxi 1 0 0 5 3 1) (.cons (.int .i64 0) .nil)))),
  ((.cons (.agg (.cons (bxI 1 0 2 5 3 3) .nil)) .nil), (.tup (.cons (bxi 1 0 2 5 3 3) (.cons (.int .i64 0) .nil)))),
  ((.cons (.agg (.cons (bxI 1 0 1 5 1 2) .nil)) .nil), stv219),
  ((.cons (.agg (.cons (bxI 1 2 1 5 3 2) .nil)) .nil), stv220)]
theorem stranOf40 : ranAll Tryz.prog stov1 175 stOf40 = true := by decide +kernel
noncomputable def stOf41 : List (AV × AV) := [
  ((.cons (.agg (.cons (bxI 4 1 1 5 2 2) .nil)) .nil), (.tup (.cons (bxo 4 1 1 5 2 2) (.cons (.int .i64 0) .nil)))),
  ((.cons (.agg (.cons (bxI 0 0 0 1 1 1) .nil)) .nil), (.tup (.cons (bxo 0 0 0 1 1 1) (.cons (.int .i64 0) .nil)))),
  ((.cons (.agg (.cons (bxI 0 0 1 1 1 2) .nil)) .nil), (.tup (.cons (bxo 0 0 1 1 1 2) (.cons (.int .i64 0) .nil)))),
  ((.cons (.agg (.cons (bxI 0 0 2 1 1 3) .nil)) .nil), (.tup (.cons (bxo 0 0 2 1 1 3) (.cons (.int .i64 0) .nil)))),
  ((.cons (.agg (.cons (bxI 0 0 3 1 1 4) .nil)) .nil), (.tup (.cons (bxo 0 0 3 1 1 4) (.cons (.int .i64 0) .nil))))]
theorem stranOf41 : ranAll Tryz.prog stov1 175 stOf41 = true := by decide +kernel
noncomputable def stOf42 : List (AV × AV) := [
  ((.cons (.agg (.cons (bxI 0 0 4 1 1 5) .nil)) .nil), (.tup (.cons (bxo 0 0 4 1 1 5) (.cons (.int .i64 0) .nil)))),
  ((.cons (.agg (.cons (bxI 0 0 5 1 1 6) .nil)) .nil), (.tup (.cons (bxo 0 0 5 1 1 6) (.cons (.int .i64 0) .nil)))),
  ((.cons (.agg (.cons (bxI 0 0 0 9 3 3) .nil)) .nil), (.tup (.cons (bxi 0 0 0 9 3 3) (.cons (.int .i64 0) .nil)))),
  ((.cons (.agg (.cons (bxI 0 6 0 9 9 3) .nil)) .nil), (.tup (.cons (bxi 0 6 0 9 9 3) (.cons (.int .i64 0) .nil)))),
  ((.cons (.agg (.cons (bxI 2 0 0 6 6 2) .nil)) .nil), (.tup (.cons (bxi 2 0 0 6 6 2) (.cons (.int .i64 0) .nil))))]
theorem stranOf42 : ranAll Tryz.prog stov1 175 stOf42 = true := by decide +kernel
noncomputable def stOf43 : List (AV × AV) := [
  ((.cons (.agg (.cons (bxI 2 0 4 6 6 6) .nil)) .nil), (.tup (.cons (bxi 2 0 4 6 6 6) (.cons (.int .i64 0) .nil)))),
  ((.cons (.agg (.cons (bxI 2 0 2 6 2 4) .nil)) .nil), (.tup (.cons (bxi 2 0 2 6 2 4) (.cons (.int .i64 0) .nil)))),
  ((.cons (.agg (.cons (bxI 2 4 2 6 6 4) .nil)) .nil), (.tup (.cons (bxi 2 4 2 6 6 4) (.cons (.int .i64 0) .nil)))),
  ((.cons (.agg (.cons (bxI 8 0 2 10 2 4) .nil)) .nil), stv221),
  ((.cons (.agg (.cons (bxI 0 0 4 4 2 6) .nil)) .nil), (.tup (.cons (bxi 0 0 4 4 2 6) (.cons (.int .i64 0) .nil))))]
theorem stranOf43 : ranAll Tryz.prog stov1 175 stOf43 = true := by decide +kernel
noncomputable def stOf44 : List (AV × AV) := [
  ((.cons (.agg (.cons (bxI 6 0 4 10 2 6) .nil)) .nil), stv222),
  ((.cons (.agg (.cons (bxI 0 0 0 3 3 1) .nil)) .nil), (.tup (.cons (bxi 0 0 0 3 3 1) (.cons (.int .i64 0) .nil)))),
  ((.cons (.agg (.cons (bxI 2 0 1 3 3 2) .nil)) .nil), stv223),
  ((.cons (.agg (.cons (bxI 1 0 1 2 1 2) .nil)) .nil), (.tup (.cons (bxo 1 0 1 2 1 2) (.cons (.int .i64 0) .nil)))),
  ((.cons (.agg (.cons (bxI 1 2 1 2 3 2) .nil)) .nil), (.tup (.cons (bxo 1 2 1 2 3 2) (.cons (.int .i64 0) .nil))))]
theorem stranOf44 : ranAll Tryz.prog stov1 175 stOf44 = true := by decide +kernel
noncomputable def stOf45 : List (AV × AV) := [
  ((.cons (.agg (.cons (bxI 0 0 2 3 3 3) .nil)) .nil), (.tup (.cons (bxi 0 0 2 3 3 3) (.cons (.int .i64 0) .nil)))),
  ((.cons (.agg (.cons (bxI 4 0 0 12 12 4) .nil)) .nil), stv224),
  ((.cons stv225 .nil), stv226),
  ((.cons (.agg (.cons (bxI 0 0 8 8 12 12) .nil)) .nil), stv227),
  ((.cons stv228 .nil), stv229)]
theorem stranOf45 : ranAll Tryz.prog stov1 175 stOf45 = true := by decide +kernel
noncomputable def stOf46 : List (AV × AV) := [
  ((.cons stv230 .nil), stv231),
  ((.cons (.agg (.cons (bxI 0 0 0 15 6 3) .nil)) .nil), stv232),
  ((.cons (.agg (.cons (bxI 0 0 3 3 6 6) .nil)) .nil), (.tup (.cons (bxi 0 0 3 3 6 6) (.cons (.int .i64 0) .nil)))),
  ((.cons (.agg (.cons (bxI 12 0 3 15 6 6) .nil)) .nil), stv233),
  ((.cons (.agg (.cons (bxI 0 0 6 6 6 9) .nil)) .nil), (.tup (.cons (bxi 0 0 6 6 6 9) (.cons (.int .i64 0) .nil))))]
theorem stranOf46 : ranAll Tryz.prog stov1 175 stOf46 = true := by decide +kernel
noncomputable def stOf47 : List (AV × AV) := [
  ((.cons (.agg (.cons (bxI 9 0 6 15 6 9) .nil)) .nil), stv234),
  ((.cons (.agg (.cons (bxI 6 0 6 9 3 12) .nil)) .nil), stv235),
  ((.cons (.agg (.cons (bxI 3 3 3 12 6 6) .nil)) .nil), stv236),
  ((.cons (.agg (.cons (bxI 6 3 6 9 6 12) .nil)) .nil), stv237),
  ((.cons (.agg (.cons (bxI 12 0 3 15 3 6) .nil)) .nil), stv238)]
theorem stranOf47 : ranAll Tryz.prog stov1 175 stOf47 = true := by decide +kernel
end Go.Sy
