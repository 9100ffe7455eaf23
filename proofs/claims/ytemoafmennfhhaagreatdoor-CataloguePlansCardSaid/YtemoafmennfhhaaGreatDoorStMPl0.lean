/- Runs of dowel/cell.Place. -/
import Derived.Test.YtemoafmennfhhaaGreatDoorStO1
namespace Go.Sy
open Go.RowKit Go.Proofs
set_option linter.unusedVariables false
set_option maxRecDepth 1000000
set_option maxHeartbeats 0
noncomputable def stPl0 : List (AV × AV):=[
  ((.cons (bxo 0 0 0 1 1 1) (.cons stv10 .nil)),(bxo 0 0 0 1 1 1)),
  ((.cons (bxo 0 0 1 1 1 2) (.cons stv10 .nil)),(bxo 0 0 1 1 1 2)),
  ((.cons (bxo 0 0 2 1 1 3) (.cons stv10 .nil)),(bxo 0 0 2 1 1 3)),
  ((.cons (bxo 0 0 3 1 1 4) (.cons stv10 .nil)),(bxo 0 0 3 1 1 4)),
  ((.cons (bxo 0 0 4 1 1 5) (.cons stv10 .nil)),(bxo 0 0 4 1 1 5)),
  ((.cons (bxo 0 0 5 1 1 6) (.cons stv10 .nil)),(bxo 0 0 5 1 1 6))]
theorem stranPl0 : ranAll Tryz.prog stov2 275 stPl0 = true:=by decide +kernel
noncomputable def stPl1 : List (AV × AV):=[
  ((.cons (bxi 0 0 0 2 2 2) (.cons stv10 .nil)),(bxo 0 0 0 2 2 2)),
  ((.cons (bxi 0 0 2 2 2 4) (.cons stv10 .nil)),(bxo 0 0 2 2 2 4)),
  ((.cons (bxi 0 0 4 2 2 6) (.cons stv10 .nil)),(bxo 0 0 4 2 2 6)),
  ((.cons (bxi 0 0 6 2 2 8) (.cons stv10 .nil)),(bxo 0 0 6 2 2 8)),
  ((.cons (bxi 0 0 8 2 2 10) (.cons stv10 .nil)),(bxo 0 0 8 2 2 10)),
  ((.cons (bxi 0 0 10 2 2 12) (.cons stv10 .nil)),(bxo 0 0 10 2 2 12))]
theorem stranPl1 : ranAll Tryz.prog stov2 275 stPl1 = true:=by decide +kernel
noncomputable def stPl2 : List (AV × AV):=[
  ((.cons (bxi 0 0 0 3 3 3) (.cons stv10 .nil)),(bxo 0 0 0 3 3 3)),
  ((.cons (bxi 0 0 3 3 3 6) (.cons stv10 .nil)),(bxo 0 0 3 3 3 6)),
  ((.cons (bxi 0 0 6 3 3 9) (.cons stv10 .nil)),(bxo 0 0 6 3 3 9)),
  ((.cons (bxi 0 0 9 3 3 12) (.cons stv10 .nil)),(bxo 0 0 9 3 3 12)),
  ((.cons (bxi 0 0 12 3 3 15) (.cons stv10 .nil)),(bxo 0 0 12 3 3 15)),
  ((.cons (bxi 0 0 15 3 3 18) (.cons stv10 .nil)),(bxo 0 0 15 3 3 18))]
theorem stranPl2 : ranAll Tryz.prog stov2 275 stPl2 = true:=by decide +kernel
noncomputable def stPl3 : List (AV × AV):=[
  ((.cons (bxi 0 0 0 4 4 4) (.cons stv10 .nil)),(bxo 0 0 0 4 4 4)),
  ((.cons (bxi 0 0 4 4 4 8) (.cons stv10 .nil)),(bxo 0 0 4 4 4 8)),
  ((.cons (bxi 0 0 8 4 4 12) (.cons stv10 .nil)),(bxo 0 0 8 4 4 12)),
  ((.cons (bxi 0 0 12 4 4 16) (.cons stv10 .nil)),(bxo 0 0 12 4 4 16)),
  ((.cons (bxi 0 0 16 4 4 20) (.cons stv10 .nil)),(bxo 0 0 16 4 4 20)),
  ((.cons (bxi 0 0 20 4 4 24) (.cons stv10 .nil)),(bxo 0 0 20 4 4 24))]
theorem stranPl3 : ranAll Tryz.prog stov2 275 stPl3 = true:=by decide +kernel
noncomputable def stPl4 : List (AV × AV):=[
  ((.cons (bxo 0 1 0 1 2 1) (.cons stv10 .nil)),(bxo 0 1 0 1 2 1)),
  ((.cons (bxo 2 1 0 3 2 1) (.cons stv10 .nil)),(bxo 2 1 0 3 2 1)),
  ((.cons (bx 0 1 1 1 1 0 0 0 0 3 1 1) (.cons stv10 .nil)),(bxo 0 0 0 3 1 1)),
  ((.cons (bx 0 1 1 1 1 0 0 2 0 3 3 1) (.cons stv10 .nil)),(bxo 0 2 0 3 3 1)),
  ((.cons (bx 1 0 1 0 1 1 1 1 (-1) 2 2 2) (.cons stv10 .nil)),(bxo 1 1 (-1) 2 2 2)),
  ((.cons (bxo 4 1 0 5 2 1) (.cons stv10 .nil)),(bxo 4 1 0 5 2 1)),
  ((.cons (bx 0 1 1 1 1 0 0 0 0 5 1 1) (.cons stv10 .nil)),(bxo 0 0 0 5 1 1)),
  ((.cons (bx 0 1 1 1 1 0 0 2 0 5 3 1) (.cons stv10 .nil)),(bxo 0 2 0 5 3 1)),
  ((.cons (bx 1 0 1 0 1 1 3 1 (-1) 4 2 2) (.cons stv10 .nil)),(bxo 3 1 (-1) 4 2 2)),
  ((.cons (bxo 6 1 0 7 2 1) (.cons stv10 .nil)),(bxo 6 1 0 7 2 1)),
  ((.cons (bx 0 1 1 1 1 0 0 0 0 7 1 1) (.cons stv10 .nil)),(bxo 0 0 0 7 1 1)),
  ((.cons (bx 0 1 1 1 1 0 0 2 0 7 3 1) (.cons stv10 .nil)),(bxo 0 2 0 7 3 1))]
theorem stranPl4 : ranAll Tryz.prog stov2 275 stPl4 = true:=by decide +kernel
noncomputable def stPl5 : List (AV × AV):=[
  ((.cons (bx 1 0 1 0 1 1 5 1 (-1) 6 2 2) (.cons stv10 .nil)),(bxo 5 1 (-1) 6 2 2))]
theorem stranPl5 : ranAll Tryz.prog stov2 275 stPl5 = true:=by decide +kernel
noncomputable def stPl6 : List (AV × AV):=[
  ((.cons (bxi 0 2 0 2 4 2) (.cons stv10 .nil)),(bxo 0 2 0 2 4 2)),
  ((.cons (bxi 4 2 0 6 4 2) (.cons stv10 .nil)),(bxo 4 2 0 6 4 2)),
  ((.cons (bxi 0 0 0 6 2 2) (.cons stv10 .nil)),(bxo 0 0 0 6 2 2)),
  ((.cons (bxi 0 4 0 6 6 2) (.cons stv10 .nil)),(bxo 0 4 0 6 6 2)),
  ((.cons (bxi 2 2 (-2) 4 4 4) (.cons stv10 .nil)),(bxo 2 2 (-2) 4 4 4)),
  ((.cons (bxi 8 2 0 10 4 2) (.cons stv10 .nil)),(bxo 8 2 0 10 4 2)),
  ((.cons (bxi 0 0 0 10 2 2) (.cons stv10 .nil)),(bxo 0 0 0 10 2 2)),
  ((.cons (bxi 0 4 0 10 6 2) (.cons stv10 .nil)),(bxo 0 4 0 10 6 2)),
  ((.cons (bxi 6 2 (-2) 8 4 4) (.cons stv10 .nil)),(bxo 6 2 (-2) 8 4 4)),
  ((.cons (bxi 12 2 0 14 4 2) (.cons stv10 .nil)),(bxo 12 2 0 14 4 2)),
  ((.cons (bxi 0 0 0 14 2 2) (.cons stv10 .nil)),(bxo 0 0 0 14 2 2)),
  ((.cons (bxi 0 4 0 14 6 2) (.cons stv10 .nil)),(bxo 0 4 0 14 6 2))]
theorem stranPl6 : ranAll Tryz.prog stov2 275 stPl6 = true:=by decide +kernel
noncomputable def stPl7 : List (AV × AV):=[
  ((.cons (bxi 10 2 (-2) 12 4 4) (.cons stv10 .nil)),(bxo 10 2 (-2) 12 4 4))]
theorem stranPl7 : ranAll Tryz.prog stov2 275 stPl7 = true:=by decide +kernel
noncomputable def stPl8 : List (AV × AV):=[
  ((.cons (bxi 0 3 0 3 6 3) (.cons stv10 .nil)),(bxo 0 3 0 3 6 3)),
  ((.cons (bxi 6 3 0 9 6 3) (.cons stv10 .nil)),(bxo 6 3 0 9 6 3)),
  ((.cons (bxi 0 0 0 9 3 3) (.cons stv10 .nil)),(bxo 0 0 0 9 3 3)),
  ((.cons (bxi 0 6 0 9 9 3) (.cons stv10 .nil)),(bxo 0 6 0 9 9 3)),
  ((.cons (bxi 3 3 (-3) 6 6 6) (.cons stv10 .nil)),(bxo 3 3 (-3) 6 6 6)),
  ((.cons (bxi 12 3 0 15 6 3) (.cons stv10 .nil)),(bxo 12 3 0 15 6 3)),
  ((.cons (bxi 0 0 0 15 3 3) (.cons stv10 .nil)),(bxo 0 0 0 15 3 3)),
  ((.cons (bxi 0 6 0 15 9 3) (.cons stv10 .nil)),(bxo 0 6 0 15 9 3)),
  ((.cons (bxi 9 3 (-3) 12 6 6) (.cons stv10 .nil)),(bxo 9 3 (-3) 12 6 6)),
  ((.cons (bxi 18 3 0 21 6 3) (.cons stv10 .nil)),(bxo 18 3 0 21 6 3)),
  ((.cons (bxi 0 0 0 21 3 3) (.cons stv10 .nil)),(bxo 0 0 0 21 3 3)),
  ((.cons (bxi 0 6 0 21 9 3) (.cons stv10 .nil)),(bxo 0 6 0 21 9 3))]
theorem stranPl8 : ranAll Tryz.prog stov2 275 stPl8 = true:=by decide +kernel
noncomputable def stPl9 : List (AV × AV):=[
  ((.cons (bxi 15 3 (-3) 18 6 6) (.cons stv10 .nil)),(bxo 15 3 (-3) 18 6 6))]
theorem stranPl9 : ranAll Tryz.prog stov2 275 stPl9 = true:=by decide +kernel
noncomputable def stPl10 : List (AV × AV):=[
  ((.cons (bxi 0 4 0 4 8 4) (.cons stv10 .nil)),(bxo 0 4 0 4 8 4)),
  ((.cons (bxi 8 4 0 12 8 4) (.cons stv10 .nil)),(bxo 8 4 0 12 8 4)),
  ((.cons (bxi 0 0 0 12 4 4) (.cons stv10 .nil)),(bxo 0 0 0 12 4 4)),
  ((.cons (bxi 0 8 0 12 12 4) (.cons stv10 .nil)),(bxo 0 8 0 12 12 4)),
  ((.cons (bxi 4 4 (-4) 8 8 8) (.cons stv10 .nil)),(bxo 4 4 (-4) 8 8 8)),
  ((.cons (bxi 16 4 0 20 8 4) (.cons stv10 .nil)),(bxo 16 4 0 20 8 4)),
  ((.cons (bxi 0 0 0 20 4 4) (.cons stv10 .nil)),(bxo 0 0 0 20 4 4)),
  ((.cons (bxi 0 8 0 20 12 4) (.cons stv10 .nil)),(bxo 0 8 0 20 12 4)),
  ((.cons (bxi 12 4 (-4) 16 8 8) (.cons stv10 .nil)),(bxo 12 4 (-4) 16 8 8)),
  ((.cons (bxi 24 4 0 28 8 4) (.cons stv10 .nil)),(bxo 24 4 0 28 8 4)),
  ((.cons (bxi 0 0 0 28 4 4) (.cons stv10 .nil)),(bxo 0 0 0 28 4 4)),
  ((.cons (bxi 0 8 0 28 12 4) (.cons stv10 .nil)),(bxo 0 8 0 28 12 4))]
theorem stranPl10 : ranAll Tryz.prog stov2 275 stPl10 = true:=by decide +kernel
noncomputable def stPl11 : List (AV × AV):=[
  ((.cons (bxi 20 4 (-4) 24 8 8) (.cons stv10 .nil)),(bxo 20 4 (-4) 24 8 8))]
theorem stranPl11 : ranAll Tryz.prog stov2 275 stPl11 = true:=by decide +kernel
noncomputable def stPl12 : List (AV × AV):=[
  ((.cons (bxo 4 0 1 5 1 2) (.cons stv10 .nil)),(bxo 4 0 1 5 1 2)),
  ((.cons (bx 0 1 1 1 1 0 0 0 2 2 1 3) (.cons stv10 .nil)),(bxo 0 0 2 2 1 3)),
  ((.cons (bx 0 1 1 1 1 0 3 0 2 5 1 3) (.cons stv10 .nil)),(bxo 3 0 2 5 1 3)),
  ((.cons (bx 0 1 1 1 1 0 1 0 1 4 1 2) (.cons stv10 .nil)),(bxo 1 0 1 4 1 2)),
  ((.cons (bx 1 0 1 0 1 1 2 0 2 3 1 4) (.cons stv10 .nil)),(bxo 2 0 2 3 1 4)),
  ((.cons (bxi 0 0 0 5 2 1) (.cons stv10 .nil)),(bxo 0 0 0 5 2 1)),
  ((.cons (bx 1 1 0 1 0 1 0 0 1 1 2 2) (.cons stv10 .nil)),(bxo 0 0 1 1 2 2)),
  ((.cons (bx 1 1 0 1 0 1 4 0 1 5 2 2) (.cons stv10 .nil)),(bxo 4 0 1 5 2 2)),
  ((.cons (bxi 0 0 2 2 2 3) (.cons stv10 .nil)),(bxo 0 0 2 2 2 3)),
  ((.cons (bxi 3 0 2 5 2 3) (.cons stv10 .nil)),(bxo 3 0 2 5 2 3)),
  ((.cons (bx 0 1 1 1 1 0 1 1 1 4 2 2) (.cons stv10 .nil)),(bxo 1 1 1 4 2 2)),
  ((.cons (bx 1 0 1 0 1 1 2 1 2 3 2 4) (.cons stv10 .nil)),(bxo 2 1 2 3 2 4))]
theorem stranPl12 : ranAll Tryz.prog stov2 275 stPl12 = true:=by decide +kernel
noncomputable def stPl13 : List (AV × AV):=[
  ((.cons (bxi 0 0 0 5 3 1) (.cons stv10 .nil)),(bxo 0 0 0 5 3 1)),
  ((.cons (bx 1 1 0 1 0 1 0 0 1 1 3 2) (.cons stv10 .nil)),(bxo 0 0 1 1 3 2)),
  ((.cons (bx 1 1 0 1 0 1 4 0 1 5 3 2) (.cons stv10 .nil)),(bxo 4 0 1 5 3 2)),
  ((.cons (bxi 0 0 2 2 3 3) (.cons stv10 .nil)),(bxo 0 0 2 2 3 3)),
  ((.cons (bxi 3 0 2 5 3 3) (.cons stv10 .nil)),(bxo 3 0 2 5 3 3)),
  ((.cons (bx 0 1 1 1 1 0 1 2 1 4 3 2) (.cons stv10 .nil)),(bxo 1 2 1 4 3 2)),
  ((.cons (bx 1 0 1 0 1 1 2 2 2 3 3 4) (.cons stv10 .nil)),(bxo 2 2 2 3 3 4))]
theorem stranPl13 : ranAll Tryz.prog stov2 275 stPl13 = true:=by decide +kernel
noncomputable def stPl14 : List (AV × AV):=[
  ((.cons (bxi 8 0 2 10 2 4) (.cons stv10 .nil)),(bxo 8 0 2 10 2 4)),
  ((.cons (bxi 0 0 4 4 2 6) (.cons stv10 .nil)),(bxo 0 0 4 4 2 6)),
  ((.cons (bxi 6 0 4 10 2 6) (.cons stv10 .nil)),(bxo 6 0 4 10 2 6)),
  ((.cons (bxi 2 0 2 8 2 4) (.cons stv10 .nil)),(bxo 2 0 2 8 2 4)),
  ((.cons (bxi 4 0 4 6 2 8) (.cons stv10 .nil)),(bxo 4 0 4 6 2 8)),
  ((.cons (bxi 0 0 0 10 4 2) (.cons stv10 .nil)),(bxo 0 0 0 10 4 2)),
  ((.cons (bxi 0 0 2 2 4 4) (.cons stv10 .nil)),(bxo 0 0 2 2 4 4)),
  ((.cons (bxi 8 0 2 10 4 4) (.cons stv10 .nil)),(bxo 8 0 2 10 4 4)),
  ((.cons (bxi 0 0 4 4 4 6) (.cons stv10 .nil)),(bxo 0 0 4 4 4 6)),
  ((.cons (bxi 6 0 4 10 4 6) (.cons stv10 .nil)),(bxo 6 0 4 10 4 6)),
  ((.cons (bxi 2 2 2 8 4 4) (.cons stv10 .nil)),(bxo 2 2 2 8 4 4)),
  ((.cons (bxi 4 2 4 6 4 8) (.cons stv10 .nil)),(bxo 4 2 4 6 4 8))]
theorem stranPl14 : ranAll Tryz.prog stov2 275 stPl14 = true:=by decide +kernel
noncomputable def stPl15 : List (AV × AV):=[
  ((.cons (bxi 0 0 0 10 6 2) (.cons stv10 .nil)),(bxo 0 0 0 10 6 2)),
  ((.cons (bxi 0 0 2 2 6 4) (.cons stv10 .nil)),(bxo 0 0 2 2 6 4)),
  ((.cons (bxi 8 0 2 10 6 4) (.cons stv10 .nil)),(bxo 8 0 2 10 6 4)),
  ((.cons (bxi 0 0 4 4 6 6) (.cons stv10 .nil)),(bxo 0 0 4 4 6 6)),
  ((.cons (bxi 6 0 4 10 6 6) (.cons stv10 .nil)),(bxo 6 0 4 10 6 6)),
  ((.cons (bxi 2 4 2 8 6 4) (.cons stv10 .nil)),(bxo 2 4 2 8 6 4)),
  ((.cons (bxi 4 4 4 6 6 8) (.cons stv10 .nil)),(bxo 4 4 4 6 6 8))]
theorem stranPl15 : ranAll Tryz.prog stov2 275 stPl15 = true:=by decide +kernel
noncomputable def stPl16 : List (AV × AV):=[
  ((.cons (bxi 12 0 3 15 3 6) (.cons stv10 .nil)),(bxo 12 0 3 15 3 6)),
  ((.cons (bxi 0 0 6 6 3 9) (.cons stv10 .nil)),(bxo 0 0 6 6 3 9)),
  ((.cons (bxi 9 0 6 15 3 9) (.cons stv10 .nil)),(bxo 9 0 6 15 3 9)),
  ((.cons (bxi 3 0 3 12 3 6) (.cons stv10 .nil)),(bxo 3 0 3 12 3 6)),
  ((.cons (bxi 6 0 6 9 3 12) (.cons stv10 .nil)),(bxo 6 0 6 9 3 12)),
  ((.cons (bxi 0 0 0 15 6 3) (.cons stv10 .nil)),(bxo 0 0 0 15 6 3)),
  ((.cons (bxi 0 0 3 3 6 6) (.cons stv10 .nil)),(bxo 0 0 3 3 6 6)),
  ((.cons (bxi 12 0 3 15 6 6) (.cons stv10 .nil)),(bxo 12 0 3 15 6 6)),
  ((.cons (bxi 0 0 6 6 6 9) (.cons stv10 .nil)),(bxo 0 0 6 6 6 9)),
  ((.cons (bxi 9 0 6 15 6 9) (.cons stv10 .nil)),(bxo 9 0 6 15 6 9)),
  ((.cons (bxi 3 3 3 12 6 6) (.cons stv10 .nil)),(bxo 3 3 3 12 6 6)),
  ((.cons (bxi 6 3 6 9 6 12) (.cons stv10 .nil)),(bxo 6 3 6 9 6 12))]
theorem stranPl16 : ranAll Tryz.prog stov2 275 stPl16 = true:=by decide +kernel
noncomputable def stPl17 : List (AV × AV):=[
  ((.cons (bxi 0 0 0 15 9 3) (.cons stv10 .nil)),(bxo 0 0 0 15 9 3)),
  ((.cons (bxi 0 0 3 3 9 6) (.cons stv10 .nil)),(bxo 0 0 3 3 9 6)),
  ((.cons (bxi 12 0 3 15 9 6) (.cons stv10 .nil)),(bxo 12 0 3 15 9 6)),
  ((.cons (bxi 0 0 6 6 9 9) (.cons stv10 .nil)),(bxo 0 0 6 6 9 9)),
  ((.cons (bxi 9 0 6 15 9 9) (.cons stv10 .nil)),(bxo 9 0 6 15 9 9)),
  ((.cons (bxi 3 6 3 12 9 6) (.cons stv10 .nil)),(bxo 3 6 3 12 9 6)),
  ((.cons (bxi 6 6 6 9 9 12) (.cons stv10 .nil)),(bxo 6 6 6 9 9 12))]
theorem stranPl17 : ranAll Tryz.prog stov2 275 stPl17 = true:=by decide +kernel
noncomputable def stPl18 : List (AV × AV):=[
  ((.cons (bxi 16 0 4 20 4 8) (.cons stv10 .nil)),(bxo 16 0 4 20 4 8)),
  ((.cons (bxi 0 0 8 8 4 12) (.cons stv10 .nil)),(bxo 0 0 8 8 4 12)),
  ((.cons (bxi 12 0 8 20 4 12) (.cons stv10 .nil)),(bxo 12 0 8 20 4 12)),
  ((.cons (bxi 4 0 4 16 4 8) (.cons stv10 .nil)),(bxo 4 0 4 16 4 8)),
  ((.cons (bxi 8 0 8 12 4 16) (.cons stv10 .nil)),(bxo 8 0 8 12 4 16)),
  ((.cons (bxi 0 0 0 20 8 4) (.cons stv10 .nil)),(bxo 0 0 0 20 8 4)),
  ((.cons (bxi 0 0 4 4 8 8) (.cons stv10 .nil)),(bxo 0 0 4 4 8 8)),
  ((.cons (bxi 16 0 4 20 8 8) (.cons stv10 .nil)),(bxo 16 0 4 20 8 8)),
  ((.cons (bxi 0 0 8 8 8 12) (.cons stv10 .nil)),(bxo 0 0 8 8 8 12)),
  ((.cons (bxi 12 0 8 20 8 12) (.cons stv10 .nil)),(bxo 12 0 8 20 8 12)),
  ((.cons (bxi 4 4 4 16 8 8) (.cons stv10 .nil)),(bxo 4 4 4 16 8 8)),
  ((.cons (bxi 8 4 8 12 8 16) (.cons stv10 .nil)),(bxo 8 4 8 12 8 16))]
theorem stranPl18 : ranAll Tryz.prog stov2 275 stPl18 = true:=by decide +kernel
noncomputable def stPl19 : List (AV × AV):=[
  ((.cons (bxi 0 0 0 20 12 4) (.cons stv10 .nil)),(bxo 0 0 0 20 12 4)),
  ((.cons (bxi 0 0 4 4 12 8) (.cons stv10 .nil)),(bxo 0 0 4 4 12 8)),
  ((.cons (bxi 16 0 4 20 12 8) (.cons stv10 .nil)),(bxo 16 0 4 20 12 8)),
  ((.cons (bxi 0 0 8 8 12 12) (.cons stv10 .nil)),(bxo 0 0 8 8 12 12)),
  ((.cons (bxi 12 0 8 20 12 12) (.cons stv10 .nil)),(bxo 12 0 8 20 12 12)),
  ((.cons (bxi 4 8 4 16 12 8) (.cons stv10 .nil)),(bxo 4 8 4 16 12 8)),
  ((.cons (bxi 8 8 8 12 12 16) (.cons stv10 .nil)),(bxo 8 8 8 12 12 16))]
theorem stranPl19 : ranAll Tryz.prog stov2 275 stPl19 = true:=by decide +kernel
noncomputable def stPl20 : List (AV × AV):=[
  ((.cons (bx 1 1 0 1 0 1 0 0 0 1 5 1) (.cons stv10 .nil)),(bxo 0 0 0 1 5 1)),
  ((.cons (bx 1 1 0 1 0 1 6 0 0 7 5 1) (.cons stv10 .nil)),(bxo 6 0 0 7 5 1)),
  ((.cons (bx 0 1 1 1 1 0 1 0 0 6 1 1) (.cons stv10 .nil)),(bxo 1 0 0 6 1 1)),
  ((.cons (bx 0 1 1 1 1 0 1 4 0 6 5 1) (.cons stv10 .nil)),(bxo 1 4 0 6 5 1)),
  ((.cons (bx 1 0 1 0 1 1 4 2 (-2) 5 3 3) (.cons stv10 .nil)),(bxo 4 2 (-2) 5 3 3)),
  ((.cons (bx 1 0 1 0 1 1 10 2 (-2) 11 3 3) (.cons stv10 .nil)),(bxo 10 2 (-2) 11 3 3)),
  ((.cons (bx 0 1 1 1 1 0 5 2 (-2) 10 3 (-1)) (.cons stv10 .nil)),(bxo 5 2 (-2) 10 3 (-1))),
  ((.cons (bx 0 1 1 1 1 0 5 2 2 10 3 3) (.cons stv10 .nil)),(bxo 5 2 2 10 3 3)),
  ((.cons (bx 1 1 0 1 0 1 8 0 0 9 5 1) (.cons stv10 .nil)),(bxo 8 0 0 9 5 1)),
  ((.cons (bx 1 1 0 1 0 1 14 0 0 15 5 1) (.cons stv10 .nil)),(bxo 14 0 0 15 5 1)),
  ((.cons (bx 0 1 1 1 1 0 9 0 0 14 1 1) (.cons stv10 .nil)),(bxo 9 0 0 14 1 1)),
  ((.cons (bx 0 1 1 1 1 0 9 4 0 14 5 1) (.cons stv10 .nil)),(bxo 9 4 0 14 5 1))]
theorem stranPl20 : ranAll Tryz.prog stov2 275 stPl20 = true:=by decide +kernel
noncomputable def stPl21 : List (AV × AV):=[
  ((.cons (bx 1 0 1 0 1 1 12 2 (-2) 13 3 3) (.cons stv10 .nil)),(bxo 12 2 (-2) 13 3 3)),
  ((.cons (bx 1 0 1 0 1 1 18 2 (-2) 19 3 3) (.cons stv10 .nil)),(bxo 18 2 (-2) 19 3 3)),
  ((.cons (bx 0 1 1 1 1 0 13 2 (-2) 18 3 (-1)) (.cons stv10 .nil)),(bxo 13 2 (-2) 18 3 (-1))),
  ((.cons (bx 0 1 1 1 1 0 13 2 2 18 3 3) (.cons stv10 .nil)),(bxo 13 2 2 18 3 3))]
theorem stranPl21 : ranAll Tryz.prog stov2 275 stPl21 = true:=by decide +kernel
noncomputable def stPl22 : List (AV × AV):=[
  ((.cons (bxi 0 0 0 2 10 2) (.cons stv10 .nil)),(bxo 0 0 0 2 10 2)),
  ((.cons (bxi 12 0 0 14 10 2) (.cons stv10 .nil)),(bxo 12 0 0 14 10 2)),
  ((.cons (bxi 2 0 0 12 2 2) (.cons stv10 .nil)),(bxo 2 0 0 12 2 2)),
  ((.cons (bxi 2 8 0 12 10 2) (.cons stv10 .nil)),(bxo 2 8 0 12 10 2)),
  ((.cons (bxi 8 4 (-4) 10 6 6) (.cons stv10 .nil)),(bxo 8 4 (-4) 10 6 6)),
  ((.cons (bxi 20 4 (-4) 22 6 6) (.cons stv10 .nil)),(bxo 20 4 (-4) 22 6 6)),
  ((.cons (bxi 10 4 (-4) 20 6 (-2)) (.cons stv10 .nil)),(bxo 10 4 (-4) 20 6 (-2))),
  ((.cons (bxi 10 4 4 20 6 6) (.cons stv10 .nil)),(bxo 10 4 4 20 6 6)),
  ((.cons (bxi 16 0 0 18 10 2) (.cons stv10 .nil)),(bxo 16 0 0 18 10 2)),
  ((.cons (bxi 28 0 0 30 10 2) (.cons stv10 .nil)),(bxo 28 0 0 30 10 2)),
  ((.cons (bxi 18 0 0 28 2 2) (.cons stv10 .nil)),(bxo 18 0 0 28 2 2)),
  ((.cons (bxi 18 8 0 28 10 2) (.cons stv10 .nil)),(bxo 18 8 0 28 10 2))]
theorem stranPl22 : ranAll Tryz.prog stov2 275 stPl22 = true:=by decide +kernel
noncomputable def stPl23 : List (AV × AV):=[
  ((.cons (bxi 24 4 (-4) 26 6 6) (.cons stv10 .nil)),(bxo 24 4 (-4) 26 6 6)),
  ((.cons (bxi 36 4 (-4) 38 6 6) (.cons stv10 .nil)),(bxo 36 4 (-4) 38 6 6)),
  ((.cons (bxi 26 4 (-4) 36 6 (-2)) (.cons stv10 .nil)),(bxo 26 4 (-4) 36 6 (-2))),
  ((.cons (bxi 26 4 4 36 6 6) (.cons stv10 .nil)),(bxo 26 4 4 36 6 6))]
theorem stranPl23 : ranAll Tryz.prog stov2 275 stPl23 = true:=by decide +kernel
noncomputable def stPl24 : List (AV × AV):=[
  ((.cons (bxi 0 0 0 3 15 3) (.cons stv10 .nil)),(bxo 0 0 0 3 15 3)),
  ((.cons (bxi 18 0 0 21 15 3) (.cons stv10 .nil)),(bxo 18 0 0 21 15 3)),
  ((.cons (bxi 3 0 0 18 3 3) (.cons stv10 .nil)),(bxo 3 0 0 18 3 3)),
  ((.cons (bxi 3 12 0 18 15 3) (.cons stv10 .nil)),(bxo 3 12 0 18 15 3)),
  ((.cons (bxi 12 6 (-6) 15 9 9) (.cons stv10 .nil)),(bxo 12 6 (-6) 15 9 9)),
  ((.cons (bxi 30 6 (-6) 33 9 9) (.cons stv10 .nil)),(bxo 30 6 (-6) 33 9 9)),
  ((.cons (bxi 15 6 (-6) 30 9 (-3)) (.cons stv10 .nil)),(bxo 15 6 (-6) 30 9 (-3))),
  ((.cons (bxi 15 6 6 30 9 9) (.cons stv10 .nil)),(bxo 15 6 6 30 9 9)),
  ((.cons (bxi 24 0 0 27 15 3) (.cons stv10 .nil)),(bxo 24 0 0 27 15 3)),
  ((.cons (bxi 42 0 0 45 15 3) (.cons stv10 .nil)),(bxo 42 0 0 45 15 3)),
  ((.cons (bxi 27 0 0 42 3 3) (.cons stv10 .nil)),(bxo 27 0 0 42 3 3)),
  ((.cons (bxi 27 12 0 42 15 3) (.cons stv10 .nil)),(bxo 27 12 0 42 15 3))]
theorem stranPl24 : ranAll Tryz.prog stov2 275 stPl24 = true:=by decide +kernel
noncomputable def stPl25 : List (AV × AV):=[
  ((.cons (bxi 36 6 (-6) 39 9 9) (.cons stv10 .nil)),(bxo 36 6 (-6) 39 9 9)),
  ((.cons (bxi 54 6 (-6) 57 9 9) (.cons stv10 .nil)),(bxo 54 6 (-6) 57 9 9)),
  ((.cons (bxi 39 6 (-6) 54 9 (-3)) (.cons stv10 .nil)),(bxo 39 6 (-6) 54 9 (-3))),
  ((.cons (bxi 39 6 6 54 9 9) (.cons stv10 .nil)),(bxo 39 6 6 54 9 9))]
theorem stranPl25 : ranAll Tryz.prog stov2 275 stPl25 = true:=by decide +kernel
noncomputable def stPl26 : List (AV × AV):=[
  ((.cons (bxi 0 0 0 4 20 4) (.cons stv10 .nil)),(bxo 0 0 0 4 20 4)),
  ((.cons (bxi 24 0 0 28 20 4) (.cons stv10 .nil)),(bxo 24 0 0 28 20 4)),
  ((.cons (bxi 4 0 0 24 4 4) (.cons stv10 .nil)),(bxo 4 0 0 24 4 4)),
  ((.cons (bxi 4 16 0 24 20 4) (.cons stv10 .nil)),(bxo 4 16 0 24 20 4)),
  ((.cons (bxi 16 8 (-8) 20 12 12) (.cons stv10 .nil)),(bxo 16 8 (-8) 20 12 12)),
  ((.cons (bxi 40 8 (-8) 44 12 12) (.cons stv10 .nil)),(bxo 40 8 (-8) 44 12 12)),
  ((.cons (bxi 20 8 (-8) 40 12 (-4)) (.cons stv10 .nil)),(bxo 20 8 (-8) 40 12 (-4))),
  ((.cons (bxi 20 8 8 40 12 12) (.cons stv10 .nil)),(bxo 20 8 8 40 12 12)),
  ((.cons (bxi 32 0 0 36 20 4) (.cons stv10 .nil)),(bxo 32 0 0 36 20 4)),
  ((.cons (bxi 56 0 0 60 20 4) (.cons stv10 .nil)),(bxo 56 0 0 60 20 4)),
  ((.cons (bxi 36 0 0 56 4 4) (.cons stv10 .nil)),(bxo 36 0 0 56 4 4)),
  ((.cons (bxi 36 16 0 56 20 4) (.cons stv10 .nil)),(bxo 36 16 0 56 20 4))]
theorem stranPl26 : ranAll Tryz.prog stov2 275 stPl26 = true:=by decide +kernel
noncomputable def stPl27 : List (AV × AV):=[
  ((.cons (bxi 48 8 (-8) 52 12 12) (.cons stv10 .nil)),(bxo 48 8 (-8) 52 12 12)),
  ((.cons (bxi 72 8 (-8) 76 12 12) (.cons stv10 .nil)),(bxo 72 8 (-8) 76 12 12)),
  ((.cons (bxi 52 8 (-8) 72 12 (-4)) (.cons stv10 .nil)),(bxo 52 8 (-8) 72 12 (-4))),
  ((.cons (bxi 52 8 8 72 12 12) (.cons stv10 .nil)),(bxo 52 8 8 72 12 12))]
theorem stranPl27 : ranAll Tryz.prog stov2 275 stPl27 = true:=by decide +kernel
noncomputable def stPl28 : List (AV × AV):=[
  ((.cons (bxi 0 0 0 3 3 1) (.cons stv10 .nil)),(bxo 0 0 0 3 3 1)),
  ((.cons (bx 1 1 0 1 0 1 2 0 1 3 3 2) (.cons stv10 .nil)),(bxo 2 0 1 3 3 2)),
  ((.cons (bxo 1 0 1 2 1 2) (.cons stv10 .nil)),(bxo 1 0 1 2 1 2)),
  ((.cons (bxo 1 2 1 2 3 2) (.cons stv10 .nil)),(bxo 1 2 1 2 3 2)),
  ((.cons (bxo 1 1 1 2 2 2) (.cons stv10 .nil)),(bxo 1 1 1 2 2 2)),
  ((.cons (bxi 0 0 2 3 3 3) (.cons stv10 .nil)),(bxo 0 0 2 3 3 3)),
  ((.cons (bxi 0 0 0 4 3 1) (.cons stv10 .nil)),(bxo 0 0 0 4 3 1)),
  ((.cons (bx 1 1 0 1 0 1 3 0 1 4 3 2) (.cons stv10 .nil)),(bxo 3 0 1 4 3 2)),
  ((.cons (bx 0 1 1 1 1 0 1 0 1 3 1 2) (.cons stv10 .nil)),(bxo 1 0 1 3 1 2)),
  ((.cons (bx 0 1 1 1 1 0 1 2 1 3 3 2) (.cons stv10 .nil)),(bxo 1 2 1 3 3 2)),
  ((.cons (bxo 2 1 1 3 2 2) (.cons stv10 .nil)),(bxo 2 1 1 3 2 2)),
  ((.cons (bxi 0 0 2 4 3 3) (.cons stv10 .nil)),(bxo 0 0 2 4 3 3))]
theorem stranPl28 : ranAll Tryz.prog stov2 275 stPl28 = true:=by decide +kernel
noncomputable def stPl29 : List (AV × AV):=[
  ((.cons (bxo 3 1 1 4 2 2) (.cons stv10 .nil)),(bxo 3 1 1 4 2 2)),
  ((.cons (bxi 0 0 2 5 3 3) (.cons stv10 .nil)),(bxo 0 0 2 5 3 3))]
theorem stranPl29 : ranAll Tryz.prog stov2 275 stPl29 = true:=by decide +kernel
noncomputable def stPl30 : List (AV × AV):=[
  ((.cons (bxi 0 0 0 6 6 2) (.cons stv10 .nil)),(bxo 0 0 0 6 6 2)),
  ((.cons (bxi 4 0 2 6 6 4) (.cons stv10 .nil)),(bxo 4 0 2 6 6 4)),
  ((.cons (bxi 2 0 2 4 2 4) (.cons stv10 .nil)),(bxo 2 0 2 4 2 4)),
  ((.cons (bxi 2 4 2 4 6 4) (.cons stv10 .nil)),(bxo 2 4 2 4 6 4)),
  ((.cons (bxi 2 2 2 4 4 4) (.cons stv10 .nil)),(bxo 2 2 2 4 4 4)),
  ((.cons (bxi 0 0 4 6 6 6) (.cons stv10 .nil)),(bxo 0 0 4 6 6 6)),
  ((.cons (bxi 0 0 0 8 6 2) (.cons stv10 .nil)),(bxo 0 0 0 8 6 2)),
  ((.cons (bxi 6 0 2 8 6 4) (.cons stv10 .nil)),(bxo 6 0 2 8 6 4)),
  ((.cons (bxi 2 0 2 6 2 4) (.cons stv10 .nil)),(bxo 2 0 2 6 2 4)),
  ((.cons (bxi 2 4 2 6 6 4) (.cons stv10 .nil)),(bxo 2 4 2 6 6 4)),
  ((.cons (bxi 4 2 2 6 4 4) (.cons stv10 .nil)),(bxo 4 2 2 6 4 4)),
  ((.cons (bxi 0 0 4 8 6 6) (.cons stv10 .nil)),(bxo 0 0 4 8 6 6))]
theorem stranPl30 : ranAll Tryz.prog stov2 275 stPl30 = true:=by decide +kernel
noncomputable def stPl31 : List (AV × AV):=[
  ((.cons (bxi 6 2 2 8 4 4) (.cons stv10 .nil)),(bxo 6 2 2 8 4 4)),
  ((.cons (bxi 0 0 4 10 6 6) (.cons stv10 .nil)),(bxo 0 0 4 10 6 6))]
theorem stranPl31 : ranAll Tryz.prog stov2 275 stPl31 = true:=by decide +kernel
noncomputable def stPl32 : List (AV × AV):=[
  ((.cons (bxi 0 0 0 9 9 3) (.cons stv10 .nil)),(bxo 0 0 0 9 9 3)),
  ((.cons (bxi 6 0 3 9 9 6) (.cons stv10 .nil)),(bxo 6 0 3 9 9 6)),
  ((.cons (bxi 3 0 3 6 3 6) (.cons stv10 .nil)),(bxo 3 0 3 6 3 6)),
  ((.cons (bxi 3 6 3 6 9 6) (.cons stv10 .nil)),(bxo 3 6 3 6 9 6)),
  ((.cons (bxi 3 3 3 6 6 6) (.cons stv10 .nil)),(bxo 3 3 3 6 6 6)),
  ((.cons (bxi 0 0 6 9 9 9) (.cons stv10 .nil)),(bxo 0 0 6 9 9 9)),
  ((.cons (bxi 0 0 0 12 9 3) (.cons stv10 .nil)),(bxo 0 0 0 12 9 3)),
  ((.cons (bxi 9 0 3 12 9 6) (.cons stv10 .nil)),(bxo 9 0 3 12 9 6)),
  ((.cons (bxi 3 0 3 9 3 6) (.cons stv10 .nil)),(bxo 3 0 3 9 3 6)),
  ((.cons (bxi 3 6 3 9 9 6) (.cons stv10 .nil)),(bxo 3 6 3 9 9 6)),
  ((.cons (bxi 6 3 3 9 6 6) (.cons stv10 .nil)),(bxo 6 3 3 9 6 6)),
  ((.cons (bxi 0 0 6 12 9 9) (.cons stv10 .nil)),(bxo 0 0 6 12 9 9))]
theorem stranPl32 : ranAll Tryz.prog stov2 275 stPl32 = true:=by decide +kernel
noncomputable def stPl33 : List (AV × AV):=[
  ((.cons (bxi 9 3 3 12 6 6) (.cons stv10 .nil)),(bxo 9 3 3 12 6 6)),
  ((.cons (bxi 0 0 6 15 9 9) (.cons stv10 .nil)),(bxo 0 0 6 15 9 9))]
theorem stranPl33 : ranAll Tryz.prog stov2 275 stPl33 = true:=by decide +kernel
noncomputable def stPl34 : List (AV × AV):=[
  ((.cons (bxi 0 0 0 12 12 4) (.cons stv10 .nil)),(bxo 0 0 0 12 12 4)),
  ((.cons (bxi 8 0 4 12 12 8) (.cons stv10 .nil)),(bxo 8 0 4 12 12 8)),
  ((.cons (bxi 4 0 4 8 4 8) (.cons stv10 .nil)),(bxo 4 0 4 8 4 8)),
  ((.cons (bxi 4 8 4 8 12 8) (.cons stv10 .nil)),(bxo 4 8 4 8 12 8)),
  ((.cons (bxi 4 4 4 8 8 8) (.cons stv10 .nil)),(bxo 4 4 4 8 8 8)),
  ((.cons (bxi 0 0 8 12 12 12) (.cons stv10 .nil)),(bxo 0 0 8 12 12 12)),
  ((.cons (bxi 0 0 0 16 12 4) (.cons stv10 .nil)),(bxo 0 0 0 16 12 4)),
  ((.cons (bxi 12 0 4 16 12 8) (.cons stv10 .nil)),(bxo 12 0 4 16 12 8)),
  ((.cons (bxi 4 0 4 12 4 8) (.cons stv10 .nil)),(bxo 4 0 4 12 4 8)),
  ((.cons (bxi 4 8 4 12 12 8) (.cons stv10 .nil)),(bxo 4 8 4 12 12 8)),
  ((.cons (bxi 8 4 4 12 8 8) (.cons stv10 .nil)),(bxo 8 4 4 12 8 8)),
  ((.cons (bxi 0 0 8 16 12 12) (.cons stv10 .nil)),(bxo 0 0 8 16 12 12))]
theorem stranPl34 : ranAll Tryz.prog stov2 275 stPl34 = true:=by decide +kernel
noncomputable def stPl35 : List (AV × AV):=[
  ((.cons (bxi 12 4 4 16 8 8) (.cons stv10 .nil)),(bxo 12 4 4 16 8 8)),
  ((.cons (bxi 0 0 8 20 12 12) (.cons stv10 .nil)),(bxo 0 0 8 20 12 12))]
theorem stranPl35 : ranAll Tryz.prog stov2 275 stPl35 = true:=by decide +kernel
noncomputable def stPl36 : List (AV × AV):=[
  ((.cons (bxi 0 0 0 1 3 3) (.cons stv10 .nil)),(bxo 0 0 0 1 3 3)),
  ((.cons (bx 1 1 0 1 0 1 1 0 0 2 3 1) (.cons stv10 .nil)),(bxo 1 0 0 2 3 1)),
  ((.cons (bx 1 1 0 1 0 1 1 0 2 2 3 3) (.cons stv10 .nil)),(bxo 1 0 2 2 3 3)),
  ((.cons (bxi 1 0 0 3 3 1) (.cons stv10 .nil)),(bxo 1 0 0 3 3 1)),
  ((.cons (bxi 1 0 2 3 3 3) (.cons stv10 .nil)),(bxo 1 0 2 3 3 3)),
  ((.cons (bxi 1 0 0 4 3 1) (.cons stv10 .nil)),(bxo 1 0 0 4 3 1)),
  ((.cons (bxi 1 0 2 4 3 3) (.cons stv10 .nil)),(bxo 1 0 2 4 3 3)),
  ((.cons (bxi 1 0 0 5 3 1) (.cons stv10 .nil)),(bxo 1 0 0 5 3 1)),
  ((.cons (bxi 1 0 2 5 3 3) (.cons stv10 .nil)),(bxo 1 0 2 5 3 3)),
  ((.cons (bx 0 1 1 1 1 0 1 0 1 5 1 2) (.cons stv10 .nil)),(bxo 1 0 1 5 1 2)),
  ((.cons (bx 0 1 1 1 1 0 1 2 1 5 3 2) (.cons stv10 .nil)),(bxo 1 2 1 5 3 2)),
  ((.cons (bxo 4 1 1 5 2 2) (.cons stv10 .nil)),(bxo 4 1 1 5 2 2))]
theorem stranPl36 : ranAll Tryz.prog stov2 275 stPl36 = true:=by decide +kernel
noncomputable def stPl37 : List (AV × AV):=[
  ((.cons (bxi 0 0 0 2 6 6) (.cons stv10 .nil)),(bxo 0 0 0 2 6 6)),
  ((.cons (bxi 2 0 0 4 6 2) (.cons stv10 .nil)),(bxo 2 0 0 4 6 2)),
  ((.cons (bxi 2 0 4 4 6 6) (.cons stv10 .nil)),(bxo 2 0 4 4 6 6)),
  ((.cons (bxi 2 0 0 6 6 2) (.cons stv10 .nil)),(bxo 2 0 0 6 6 2)),
  ((.cons (bxi 2 0 4 6 6 6) (.cons stv10 .nil)),(bxo 2 0 4 6 6 6)),
  ((.cons (bxi 2 0 0 8 6 2) (.cons stv10 .nil)),(bxo 2 0 0 8 6 2)),
  ((.cons (bxi 2 0 4 8 6 6) (.cons stv10 .nil)),(bxo 2 0 4 8 6 6)),
  ((.cons (bxi 2 0 0 10 6 2) (.cons stv10 .nil)),(bxo 2 0 0 10 6 2)),
  ((.cons (bxi 2 0 4 10 6 6) (.cons stv10 .nil)),(bxo 2 0 4 10 6 6)),
  ((.cons (bxi 2 0 2 10 2 4) (.cons stv10 .nil)),(bxo 2 0 2 10 2 4)),
  ((.cons (bxi 2 4 2 10 6 4) (.cons stv10 .nil)),(bxo 2 4 2 10 6 4)),
  ((.cons (bxi 8 2 2 10 4 4) (.cons stv10 .nil)),(bxo 8 2 2 10 4 4))]
theorem stranPl37 : ranAll Tryz.prog stov2 275 stPl37 = true:=by decide +kernel
noncomputable def stPl38 : List (AV × AV):=[
  ((.cons (bxi 0 0 0 3 9 9) (.cons stv10 .nil)),(bxo 0 0 0 3 9 9)),
  ((.cons (bxi 3 0 0 6 9 3) (.cons stv10 .nil)),(bxo 3 0 0 6 9 3)),
  ((.cons (bxi 3 0 6 6 9 9) (.cons stv10 .nil)),(bxo 3 0 6 6 9 9)),
  ((.cons (bxi 3 0 0 9 9 3) (.cons stv10 .nil)),(bxo 3 0 0 9 9 3)),
  ((.cons (bxi 3 0 6 9 9 9) (.cons stv10 .nil)),(bxo 3 0 6 9 9 9)),
  ((.cons (bxi 3 0 0 12 9 3) (.cons stv10 .nil)),(bxo 3 0 0 12 9 3)),
  ((.cons (bxi 3 0 6 12 9 9) (.cons stv10 .nil)),(bxo 3 0 6 12 9 9)),
  ((.cons (bxi 3 0 0 15 9 3) (.cons stv10 .nil)),(bxo 3 0 0 15 9 3)),
  ((.cons (bxi 3 0 6 15 9 9) (.cons stv10 .nil)),(bxo 3 0 6 15 9 9)),
  ((.cons (bxi 3 0 3 15 3 6) (.cons stv10 .nil)),(bxo 3 0 3 15 3 6)),
  ((.cons (bxi 3 6 3 15 9 6) (.cons stv10 .nil)),(bxo 3 6 3 15 9 6)),
  ((.cons (bxi 12 3 3 15 6 6) (.cons stv10 .nil)),(bxo 12 3 3 15 6 6))]
theorem stranPl38 : ranAll Tryz.prog stov2 275 stPl38 = true:=by decide +kernel
noncomputable def stPl39 : List (AV × AV):=[
  ((.cons (bxi 0 0 0 4 12 12) (.cons stv10 .nil)),(bxo 0 0 0 4 12 12)),
  ((.cons (bxi 4 0 0 8 12 4) (.cons stv10 .nil)),(bxo 4 0 0 8 12 4)),
  ((.cons (bxi 4 0 8 8 12 12) (.cons stv10 .nil)),(bxo 4 0 8 8 12 12)),
  ((.cons (bxi 4 0 0 12 12 4) (.cons stv10 .nil)),(bxo 4 0 0 12 12 4)),
  ((.cons (bxi 4 0 8 12 12 12) (.cons stv10 .nil)),(bxo 4 0 8 12 12 12)),
  ((.cons (bxi 4 0 0 16 12 4) (.cons stv10 .nil)),(bxo 4 0 0 16 12 4)),
  ((.cons (bxi 4 0 8 16 12 12) (.cons stv10 .nil)),(bxo 4 0 8 16 12 12)),
  ((.cons (bxi 4 0 0 20 12 4) (.cons stv10 .nil)),(bxo 4 0 0 20 12 4)),
  ((.cons (bxi 4 0 8 20 12 12) (.cons stv10 .nil)),(bxo 4 0 8 20 12 12)),
  ((.cons (bxi 4 0 4 20 4 8) (.cons stv10 .nil)),(bxo 4 0 4 20 4 8)),
  ((.cons (bxi 4 8 4 20 12 8) (.cons stv10 .nil)),(bxo 4 8 4 20 12 8)),
  ((.cons (bxi 16 4 4 20 8 8) (.cons stv10 .nil)),(bxo 16 4 4 20 8 8))]
theorem stranPl39 : ranAll Tryz.prog stov2 275 stPl39 = true:=by decide +kernel
end Go.Sy
