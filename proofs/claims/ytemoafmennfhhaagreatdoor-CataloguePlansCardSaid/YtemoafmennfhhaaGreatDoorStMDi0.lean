/- Runs of dowel/cell.Directions. -/
import Derived.Test.YtemoafmennfhhaaGreatDoorStO1
namespace Go.Sy
open Go.RowKit Go.Proofs
set_option linter.unusedVariables false
set_option maxRecDepth 1000000
set_option maxHeartbeats 0
noncomputable def stDi0 : List (AV × AV):=[
  ((.cons (bxo 0 0 1 1 1 2) .nil),(.ro 3 (qz [0,0,1,0,1,0,1,0,0] .nil))),
  ((.cons (bxo 0 0 0 1 1 1) .nil),(.ro 3 (qz [0,0,1,0,1,0,1,0,0] .nil))),
  ((.cons (bxo 0 0 2 1 1 3) .nil),(.ro 3 (qz [0,0,1,0,1,0,1,0,0] .nil))),
  ((.cons (bxo 0 0 3 1 1 4) .nil),(.ro 3 (qz [0,0,1,0,1,0,1,0,0] .nil))),
  ((.cons (bxo 0 0 4 1 1 5) .nil),(.ro 3 (qz [0,0,1,0,1,0,1,0,0] .nil))),
  ((.cons (bxo 0 0 5 1 1 6) .nil),(.ro 3 (qz [0,0,1,0,1,0,1,0,0] .nil)))]
theorem stranDi0 : ranAll Tryz.prog stov2 313 stDi0 = true:=by decide +kernel
noncomputable def stDi1 : List (AV × AV):=[
  ((.cons (bxo 0 0 2 2 2 4) .nil),stv18),
  ((.cons (bxo 0 0 0 2 2 2) .nil),stv18),
  ((.cons (bxo 0 0 4 2 2 6) .nil),stv18),
  ((.cons (bxo 0 0 6 2 2 8) .nil),stv18),
  ((.cons (bxo 0 0 8 2 2 10) .nil),stv18),
  ((.cons (bxo 0 0 10 2 2 12) .nil),stv18)]
theorem stranDi1 : ranAll Tryz.prog stov2 313 stDi1 = true:=by decide +kernel
noncomputable def stDi2 : List (AV × AV):=[
  ((.cons (bxo 0 0 3 3 3 6) .nil),stv18),
  ((.cons (bxo 0 0 0 3 3 3) .nil),stv18),
  ((.cons (bxo 0 0 6 3 3 9) .nil),stv18),
  ((.cons (bxo 0 0 9 3 3 12) .nil),stv18),
  ((.cons (bxo 0 0 12 3 3 15) .nil),stv18),
  ((.cons (bxo 0 0 15 3 3 18) .nil),stv18)]
theorem stranDi2 : ranAll Tryz.prog stov2 313 stDi2 = true:=by decide +kernel
noncomputable def stDi3 : List (AV × AV):=[
  ((.cons (bxo 0 0 4 4 4 8) .nil),stv18),
  ((.cons (bxo 0 0 0 4 4 4) .nil),stv18),
  ((.cons (bxo 0 0 8 4 4 12) .nil),stv18),
  ((.cons (bxo 0 0 12 4 4 16) .nil),stv18),
  ((.cons (bxo 0 0 16 4 4 20) .nil),stv18),
  ((.cons (bxo 0 0 20 4 4 24) .nil),stv18)]
theorem stranDi3 : ranAll Tryz.prog stov2 313 stDi3 = true:=by decide +kernel
noncomputable def stDi4 : List (AV × AV):=[
  ((.cons (bxo 1 1 (-1) 2 2 2) .nil),stv32),
  ((.cons (bxo 0 1 0 1 2 1) .nil),(.ro 3 (qz [0,0,1,0,1,0,1,0,0] .nil))),
  ((.cons (bxo 2 1 0 3 2 1) .nil),(.ro 3 (qz [0,0,1,0,1,0,1,0,0] .nil))),
  ((.cons (bxo 0 0 0 3 1 1) .nil),stv33),
  ((.cons (bxo 0 2 0 3 3 1) .nil),stv33),
  ((.cons (bxo 4 1 0 5 2 1) .nil),(.ro 3 (qz [0,0,1,0,1,0,1,0,0] .nil))),
  ((.cons (bxo 0 0 0 5 1 1) .nil),stv33),
  ((.cons (bxo 0 2 0 5 3 1) .nil),stv33),
  ((.cons (bxo 3 1 (-1) 4 2 2) .nil),stv32),
  ((.cons (bxo 6 1 0 7 2 1) .nil),(.ro 3 (qz [0,0,1,0,1,0,1,0,0] .nil))),
  ((.cons (bxo 0 0 0 7 1 1) .nil),stv33),
  ((.cons (bxo 0 2 0 7 3 1) .nil),stv33),
  ((.cons (bxo 5 1 (-1) 6 2 2) .nil),stv32)]
theorem stranDi4 : ranAll Tryz.prog stov2 313 stDi4 = true:=by decide +kernel
noncomputable def stDi5 : List (AV × AV):=[
  ((.cons (bxo 2 2 (-2) 4 4 4) .nil),stv18),
  ((.cons (bxo 0 2 0 2 4 2) .nil),stv18),
  ((.cons (bxo 4 2 0 6 4 2) .nil),stv18),
  ((.cons (bxo 0 0 0 6 2 2) .nil),stv18),
  ((.cons (bxo 0 4 0 6 6 2) .nil),stv18),
  ((.cons (bxo 8 2 0 10 4 2) .nil),stv18),
  ((.cons (bxo 0 0 0 10 2 2) .nil),stv18),
  ((.cons (bxo 0 4 0 10 6 2) .nil),stv18),
  ((.cons (bxo 6 2 (-2) 8 4 4) .nil),stv18),
  ((.cons (bxo 12 2 0 14 4 2) .nil),stv18),
  ((.cons (bxo 0 0 0 14 2 2) .nil),stv18),
  ((.cons (bxo 0 4 0 14 6 2) .nil),stv18),
  ((.cons (bxo 10 2 (-2) 12 4 4) .nil),stv18)]
theorem stranDi5 : ranAll Tryz.prog stov2 313 stDi5 = true:=by decide +kernel
noncomputable def stDi6 : List (AV × AV):=[
  ((.cons (bxo 3 3 (-3) 6 6 6) .nil),stv18),
  ((.cons (bxo 0 3 0 3 6 3) .nil),stv18),
  ((.cons (bxo 6 3 0 9 6 3) .nil),stv18),
  ((.cons (bxo 0 0 0 9 3 3) .nil),stv18),
  ((.cons (bxo 0 6 0 9 9 3) .nil),stv18),
  ((.cons (bxo 12 3 0 15 6 3) .nil),stv18),
  ((.cons (bxo 0 0 0 15 3 3) .nil),stv18),
  ((.cons (bxo 0 6 0 15 9 3) .nil),stv18),
  ((.cons (bxo 9 3 (-3) 12 6 6) .nil),stv18),
  ((.cons (bxo 18 3 0 21 6 3) .nil),stv18),
  ((.cons (bxo 0 0 0 21 3 3) .nil),stv18),
  ((.cons (bxo 0 6 0 21 9 3) .nil),stv18),
  ((.cons (bxo 15 3 (-3) 18 6 6) .nil),stv18)]
theorem stranDi6 : ranAll Tryz.prog stov2 313 stDi6 = true:=by decide +kernel
noncomputable def stDi7 : List (AV × AV):=[
  ((.cons (bxo 4 4 (-4) 8 8 8) .nil),stv18),
  ((.cons (bxo 0 4 0 4 8 4) .nil),stv18),
  ((.cons (bxo 8 4 0 12 8 4) .nil),stv18),
  ((.cons (bxo 0 0 0 12 4 4) .nil),stv18),
  ((.cons (bxo 0 8 0 12 12 4) .nil),stv18),
  ((.cons (bxo 16 4 0 20 8 4) .nil),stv18),
  ((.cons (bxo 0 0 0 20 4 4) .nil),stv18),
  ((.cons (bxo 0 8 0 20 12 4) .nil),stv18),
  ((.cons (bxo 12 4 (-4) 16 8 8) .nil),stv18),
  ((.cons (bxo 24 4 0 28 8 4) .nil),stv18),
  ((.cons (bxo 0 0 0 28 4 4) .nil),stv18),
  ((.cons (bxo 0 8 0 28 12 4) .nil),stv18),
  ((.cons (bxo 20 4 (-4) 24 8 8) .nil),stv18)]
theorem stranDi7 : ranAll Tryz.prog stov2 313 stDi7 = true:=by decide +kernel
noncomputable def stDi8 : List (AV × AV):=[
  ((.cons (bxo 1 0 1 4 1 2) .nil),stv33),
  ((.cons (bxo 2 0 2 3 1 4) .nil),stv32),
  ((.cons (bxo 4 0 1 5 1 2) .nil),(.ro 3 (qz [0,0,1,0,1,0,1,0,0] .nil))),
  ((.cons (bxo 0 0 2 2 1 3) .nil),stv33),
  ((.cons (bxo 3 0 2 5 1 3) .nil),stv33),
  ((.cons (bxo 0 0 0 5 2 1) .nil),stv89),
  ((.cons (bxo 0 0 1 1 2 2) .nil),stv90),
  ((.cons (bxo 4 0 1 5 2 2) .nil),stv90),
  ((.cons (bxo 0 0 2 2 2 3) .nil),stv89),
  ((.cons (bxo 3 0 2 5 2 3) .nil),stv89),
  ((.cons (bxo 1 1 1 4 2 2) .nil),stv33),
  ((.cons (bxo 2 1 2 3 2 4) .nil),stv32),
  ((.cons (bxo 0 0 0 5 3 1) .nil),stv89),
  ((.cons (bxo 0 0 1 1 3 2) .nil),stv90),
  ((.cons (bxo 4 0 1 5 3 2) .nil),stv90),
  ((.cons (bxo 0 0 2 2 3 3) .nil),stv89),
  ((.cons (bxo 3 0 2 5 3 3) .nil),stv89),
  ((.cons (bxo 1 2 1 4 3 2) .nil),stv33),
  ((.cons (bxo 2 2 2 3 3 4) .nil),stv32)]
theorem stranDi8 : ranAll Tryz.prog stov2 313 stDi8 = true:=by decide +kernel
noncomputable def stDi9 : List (AV × AV):=[
  ((.cons (bxo 2 0 2 8 2 4) .nil),stv18),
  ((.cons (bxo 4 0 4 6 2 8) .nil),stv18),
  ((.cons (bxo 8 0 2 10 2 4) .nil),stv18),
  ((.cons (bxo 0 0 4 4 2 6) .nil),stv18),
  ((.cons (bxo 6 0 4 10 2 6) .nil),stv18),
  ((.cons (bxo 0 0 0 10 4 2) .nil),stv18),
  ((.cons (bxo 0 0 2 2 4 4) .nil),stv18),
  ((.cons (bxo 8 0 2 10 4 4) .nil),stv18),
  ((.cons (bxo 0 0 4 4 4 6) .nil),stv18),
  ((.cons (bxo 6 0 4 10 4 6) .nil),stv18),
  ((.cons (bxo 2 2 2 8 4 4) .nil),stv18),
  ((.cons (bxo 4 2 4 6 4 8) .nil),stv18),
  ((.cons (bxo 0 0 0 10 6 2) .nil),stv18),
  ((.cons (bxo 0 0 2 2 6 4) .nil),stv18),
  ((.cons (bxo 8 0 2 10 6 4) .nil),stv18),
  ((.cons (bxo 0 0 4 4 6 6) .nil),stv18),
  ((.cons (bxo 6 0 4 10 6 6) .nil),stv18),
  ((.cons (bxo 2 4 2 8 6 4) .nil),stv18),
  ((.cons (bxo 4 4 4 6 6 8) .nil),stv18)]
theorem stranDi9 : ranAll Tryz.prog stov2 313 stDi9 = true:=by decide +kernel
noncomputable def stDi10 : List (AV × AV):=[
  ((.cons (bxo 3 0 3 12 3 6) .nil),stv18),
  ((.cons (bxo 6 0 6 9 3 12) .nil),stv18),
  ((.cons (bxo 12 0 3 15 3 6) .nil),stv18),
  ((.cons (bxo 0 0 6 6 3 9) .nil),stv18),
  ((.cons (bxo 9 0 6 15 3 9) .nil),stv18),
  ((.cons (bxo 0 0 0 15 6 3) .nil),stv18),
  ((.cons (bxo 0 0 3 3 6 6) .nil),stv18),
  ((.cons (bxo 12 0 3 15 6 6) .nil),stv18),
  ((.cons (bxo 0 0 6 6 6 9) .nil),stv18),
  ((.cons (bxo 9 0 6 15 6 9) .nil),stv18),
  ((.cons (bxo 3 3 3 12 6 6) .nil),stv18),
  ((.cons (bxo 6 3 6 9 6 12) .nil),stv18),
  ((.cons (bxo 0 0 0 15 9 3) .nil),stv18),
  ((.cons (bxo 0 0 3 3 9 6) .nil),stv18),
  ((.cons (bxo 12 0 3 15 9 6) .nil),stv18),
  ((.cons (bxo 0 0 6 6 9 9) .nil),stv18),
  ((.cons (bxo 9 0 6 15 9 9) .nil),stv18),
  ((.cons (bxo 3 6 3 12 9 6) .nil),stv18),
  ((.cons (bxo 6 6 6 9 9 12) .nil),stv18)]
theorem stranDi10 : ranAll Tryz.prog stov2 313 stDi10 = true:=by decide +kernel
noncomputable def stDi11 : List (AV × AV):=[
  ((.cons (bxo 4 0 4 16 4 8) .nil),stv18),
  ((.cons (bxo 8 0 8 12 4 16) .nil),stv18),
  ((.cons (bxo 16 0 4 20 4 8) .nil),stv18),
  ((.cons (bxo 0 0 8 8 4 12) .nil),stv18),
  ((.cons (bxo 12 0 8 20 4 12) .nil),stv18),
  ((.cons (bxo 0 0 0 20 8 4) .nil),stv18),
  ((.cons (bxo 0 0 4 4 8 8) .nil),stv18),
  ((.cons (bxo 16 0 4 20 8 8) .nil),stv18),
  ((.cons (bxo 0 0 8 8 8 12) .nil),stv18),
  ((.cons (bxo 12 0 8 20 8 12) .nil),stv18),
  ((.cons (bxo 4 4 4 16 8 8) .nil),stv18),
  ((.cons (bxo 8 4 8 12 8 16) .nil),stv18),
  ((.cons (bxo 0 0 0 20 12 4) .nil),stv18),
  ((.cons (bxo 0 0 4 4 12 8) .nil),stv18),
  ((.cons (bxo 16 0 4 20 12 8) .nil),stv18),
  ((.cons (bxo 0 0 8 8 12 12) .nil),stv18),
  ((.cons (bxo 12 0 8 20 12 12) .nil),stv18),
  ((.cons (bxo 4 8 4 16 12 8) .nil),stv18),
  ((.cons (bxo 8 8 8 12 12 16) .nil),stv18)]
theorem stranDi11 : ranAll Tryz.prog stov2 313 stDi11 = true:=by decide +kernel
noncomputable def stDi12 : List (AV × AV):=[
  ((.cons (bxo 4 2 (-2) 5 3 3) .nil),stv32),
  ((.cons (bxo 0 0 0 1 5 1) .nil),stv90),
  ((.cons (bxo 10 2 (-2) 11 3 3) .nil),stv32),
  ((.cons (bxo 5 2 (-2) 10 3 (-1)) .nil),stv33),
  ((.cons (bxo 5 2 2 10 3 3) .nil),stv33),
  ((.cons (bxo 6 0 0 7 5 1) .nil),stv90),
  ((.cons (bxo 1 0 0 6 1 1) .nil),stv33),
  ((.cons (bxo 1 4 0 6 5 1) .nil),stv33),
  ((.cons (bxo 8 0 0 9 5 1) .nil),stv90),
  ((.cons (bxo 14 0 0 15 5 1) .nil),stv90),
  ((.cons (bxo 9 0 0 14 1 1) .nil),stv33),
  ((.cons (bxo 9 4 0 14 5 1) .nil),stv33),
  ((.cons (bxo 12 2 (-2) 13 3 3) .nil),stv32),
  ((.cons (bxo 18 2 (-2) 19 3 3) .nil),stv32),
  ((.cons (bxo 13 2 (-2) 18 3 (-1)) .nil),stv33),
  ((.cons (bxo 13 2 2 18 3 3) .nil),stv33)]
theorem stranDi12 : ranAll Tryz.prog stov2 313 stDi12 = true:=by decide +kernel
noncomputable def stDi13 : List (AV × AV):=[
  ((.cons (bxo 8 4 (-4) 10 6 6) .nil),stv18),
  ((.cons (bxo 0 0 0 2 10 2) .nil),stv18),
  ((.cons (bxo 20 4 (-4) 22 6 6) .nil),stv18),
  ((.cons (bxo 10 4 (-4) 20 6 (-2)) .nil),stv18),
  ((.cons (bxo 10 4 4 20 6 6) .nil),stv18),
  ((.cons (bxo 12 0 0 14 10 2) .nil),stv18),
  ((.cons (bxo 2 0 0 12 2 2) .nil),stv18),
  ((.cons (bxo 2 8 0 12 10 2) .nil),stv18),
  ((.cons (bxo 16 0 0 18 10 2) .nil),stv18),
  ((.cons (bxo 28 0 0 30 10 2) .nil),stv18),
  ((.cons (bxo 18 0 0 28 2 2) .nil),stv18),
  ((.cons (bxo 18 8 0 28 10 2) .nil),stv18),
  ((.cons (bxo 24 4 (-4) 26 6 6) .nil),stv18),
  ((.cons (bxo 36 4 (-4) 38 6 6) .nil),stv18),
  ((.cons (bxo 26 4 (-4) 36 6 (-2)) .nil),stv18),
  ((.cons (bxo 26 4 4 36 6 6) .nil),stv18)]
theorem stranDi13 : ranAll Tryz.prog stov2 313 stDi13 = true:=by decide +kernel
noncomputable def stDi14 : List (AV × AV):=[
  ((.cons (bxo 12 6 (-6) 15 9 9) .nil),stv18),
  ((.cons (bxo 0 0 0 3 15 3) .nil),stv18),
  ((.cons (bxo 30 6 (-6) 33 9 9) .nil),stv18),
  ((.cons (bxo 15 6 (-6) 30 9 (-3)) .nil),stv18),
  ((.cons (bxo 15 6 6 30 9 9) .nil),stv18),
  ((.cons (bxo 18 0 0 21 15 3) .nil),stv18),
  ((.cons (bxo 3 0 0 18 3 3) .nil),stv18),
  ((.cons (bxo 3 12 0 18 15 3) .nil),stv18),
  ((.cons (bxo 24 0 0 27 15 3) .nil),stv18),
  ((.cons (bxo 42 0 0 45 15 3) .nil),stv18),
  ((.cons (bxo 27 0 0 42 3 3) .nil),stv18),
  ((.cons (bxo 27 12 0 42 15 3) .nil),stv18),
  ((.cons (bxo 36 6 (-6) 39 9 9) .nil),stv18),
  ((.cons (bxo 54 6 (-6) 57 9 9) .nil),stv18),
  ((.cons (bxo 39 6 (-6) 54 9 (-3)) .nil),stv18),
  ((.cons (bxo 39 6 6 54 9 9) .nil),stv18)]
theorem stranDi14 : ranAll Tryz.prog stov2 313 stDi14 = true:=by decide +kernel
noncomputable def stDi15 : List (AV × AV):=[
  ((.cons (bxo 16 8 (-8) 20 12 12) .nil),stv18),
  ((.cons (bxo 0 0 0 4 20 4) .nil),stv18),
  ((.cons (bxo 40 8 (-8) 44 12 12) .nil),stv18),
  ((.cons (bxo 20 8 (-8) 40 12 (-4)) .nil),stv18),
  ((.cons (bxo 20 8 8 40 12 12) .nil),stv18),
  ((.cons (bxo 24 0 0 28 20 4) .nil),stv18),
  ((.cons (bxo 4 0 0 24 4 4) .nil),stv18),
  ((.cons (bxo 4 16 0 24 20 4) .nil),stv18),
  ((.cons (bxo 32 0 0 36 20 4) .nil),stv18),
  ((.cons (bxo 56 0 0 60 20 4) .nil),stv18),
  ((.cons (bxo 36 0 0 56 4 4) .nil),stv18),
  ((.cons (bxo 36 16 0 56 20 4) .nil),stv18),
  ((.cons (bxo 48 8 (-8) 52 12 12) .nil),stv18),
  ((.cons (bxo 72 8 (-8) 76 12 12) .nil),stv18),
  ((.cons (bxo 52 8 (-8) 72 12 (-4)) .nil),stv18),
  ((.cons (bxo 52 8 8 72 12 12) .nil),stv18)]
theorem stranDi15 : ranAll Tryz.prog stov2 313 stDi15 = true:=by decide +kernel
noncomputable def stDi16 : List (AV × AV):=[
  ((.cons (bxo 1 1 1 2 2 2) .nil),(.ro 3 (qz [0,0,1,0,1,0,1,0,0] .nil))),
  ((.cons (bxo 0 0 0 3 3 1) .nil),stv89),
  ((.cons (bxo 2 0 1 3 3 2) .nil),stv90),
  ((.cons (bxo 1 0 1 2 1 2) .nil),(.ro 3 (qz [0,0,1,0,1,0,1,0,0] .nil))),
  ((.cons (bxo 1 2 1 2 3 2) .nil),(.ro 3 (qz [0,0,1,0,1,0,1,0,0] .nil))),
  ((.cons (bxo 0 0 2 3 3 3) .nil),stv89),
  ((.cons (bxo 0 0 0 4 3 1) .nil),stv89),
  ((.cons (bxo 3 0 1 4 3 2) .nil),stv90),
  ((.cons (bxo 1 0 1 3 1 2) .nil),stv33),
  ((.cons (bxo 1 2 1 3 3 2) .nil),stv33),
  ((.cons (bxo 2 1 1 3 2 2) .nil),(.ro 3 (qz [0,0,1,0,1,0,1,0,0] .nil))),
  ((.cons (bxo 0 0 2 4 3 3) .nil),stv89),
  ((.cons (bxo 3 1 1 4 2 2) .nil),(.ro 3 (qz [0,0,1,0,1,0,1,0,0] .nil))),
  ((.cons (bxo 0 0 2 5 3 3) .nil),stv89)]
theorem stranDi16 : ranAll Tryz.prog stov2 313 stDi16 = true:=by decide +kernel
noncomputable def stDi17 : List (AV × AV):=[
  ((.cons (bxo 2 2 2 4 4 4) .nil),stv18),
  ((.cons (bxo 0 0 0 6 6 2) .nil),stv18),
  ((.cons (bxo 4 0 2 6 6 4) .nil),stv18),
  ((.cons (bxo 2 0 2 4 2 4) .nil),stv18),
  ((.cons (bxo 2 4 2 4 6 4) .nil),stv18),
  ((.cons (bxo 0 0 4 6 6 6) .nil),stv18),
  ((.cons (bxo 0 0 0 8 6 2) .nil),stv18),
  ((.cons (bxo 6 0 2 8 6 4) .nil),stv18),
  ((.cons (bxo 2 0 2 6 2 4) .nil),stv18),
  ((.cons (bxo 2 4 2 6 6 4) .nil),stv18),
  ((.cons (bxo 4 2 2 6 4 4) .nil),stv18),
  ((.cons (bxo 0 0 4 8 6 6) .nil),stv18),
  ((.cons (bxo 6 2 2 8 4 4) .nil),stv18),
  ((.cons (bxo 0 0 4 10 6 6) .nil),stv18)]
theorem stranDi17 : ranAll Tryz.prog stov2 313 stDi17 = true:=by decide +kernel
noncomputable def stDi18 : List (AV × AV):=[
  ((.cons (bxo 3 3 3 6 6 6) .nil),stv18),
  ((.cons (bxo 0 0 0 9 9 3) .nil),stv18),
  ((.cons (bxo 6 0 3 9 9 6) .nil),stv18),
  ((.cons (bxo 3 0 3 6 3 6) .nil),stv18),
  ((.cons (bxo 3 6 3 6 9 6) .nil),stv18),
  ((.cons (bxo 0 0 6 9 9 9) .nil),stv18),
  ((.cons (bxo 0 0 0 12 9 3) .nil),stv18),
  ((.cons (bxo 9 0 3 12 9 6) .nil),stv18),
  ((.cons (bxo 3 0 3 9 3 6) .nil),stv18),
  ((.cons (bxo 3 6 3 9 9 6) .nil),stv18),
  ((.cons (bxo 6 3 3 9 6 6) .nil),stv18),
  ((.cons (bxo 0 0 6 12 9 9) .nil),stv18),
  ((.cons (bxo 9 3 3 12 6 6) .nil),stv18),
  ((.cons (bxo 0 0 6 15 9 9) .nil),stv18)]
theorem stranDi18 : ranAll Tryz.prog stov2 313 stDi18 = true:=by decide +kernel
noncomputable def stDi19 : List (AV × AV):=[
  ((.cons (bxo 4 4 4 8 8 8) .nil),stv18),
  ((.cons (bxo 0 0 0 12 12 4) .nil),stv18),
  ((.cons (bxo 8 0 4 12 12 8) .nil),stv18),
  ((.cons (bxo 4 0 4 8 4 8) .nil),stv18),
  ((.cons (bxo 4 8 4 8 12 8) .nil),stv18),
  ((.cons (bxo 0 0 8 12 12 12) .nil),stv18),
  ((.cons (bxo 0 0 0 16 12 4) .nil),stv18),
  ((.cons (bxo 12 0 4 16 12 8) .nil),stv18),
  ((.cons (bxo 4 0 4 12 4 8) .nil),stv18),
  ((.cons (bxo 4 8 4 12 12 8) .nil),stv18),
  ((.cons (bxo 8 4 4 12 8 8) .nil),stv18),
  ((.cons (bxo 0 0 8 16 12 12) .nil),stv18),
  ((.cons (bxo 12 4 4 16 8 8) .nil),stv18),
  ((.cons (bxo 0 0 8 20 12 12) .nil),stv18)]
theorem stranDi19 : ranAll Tryz.prog stov2 313 stDi19 = true:=by decide +kernel
noncomputable def stDi20 : List (AV × AV):=[
  ((.cons (bxo 0 0 0 1 3 3) .nil),stv272),
  ((.cons (bxo 1 0 0 2 3 1) .nil),stv90),
  ((.cons (bxo 1 0 2 2 3 3) .nil),stv90),
  ((.cons (bxo 1 0 0 3 3 1) .nil),stv89),
  ((.cons (bxo 1 0 2 3 3 3) .nil),stv89),
  ((.cons (bxo 1 0 0 4 3 1) .nil),stv89),
  ((.cons (bxo 1 0 2 4 3 3) .nil),stv89),
  ((.cons (bxo 1 0 0 5 3 1) .nil),stv89),
  ((.cons (bxo 1 0 2 5 3 3) .nil),stv89),
  ((.cons (bxo 1 0 1 5 1 2) .nil),stv33),
  ((.cons (bxo 1 2 1 5 3 2) .nil),stv33),
  ((.cons (bxo 4 1 1 5 2 2) .nil),(.ro 3 (qz [0,0,1,0,1,0,1,0,0] .nil)))]
theorem stranDi20 : ranAll Tryz.prog stov2 313 stDi20 = true:=by decide +kernel
noncomputable def stDi21 : List (AV × AV):=[
  ((.cons (bxo 0 0 0 2 6 6) .nil),stv18),
  ((.cons (bxo 2 0 0 4 6 2) .nil),stv18),
  ((.cons (bxo 2 0 4 4 6 6) .nil),stv18),
  ((.cons (bxo 2 0 0 6 6 2) .nil),stv18),
  ((.cons (bxo 2 0 4 6 6 6) .nil),stv18),
  ((.cons (bxo 2 0 0 8 6 2) .nil),stv18),
  ((.cons (bxo 2 0 4 8 6 6) .nil),stv18),
  ((.cons (bxo 2 0 0 10 6 2) .nil),stv18),
  ((.cons (bxo 2 0 4 10 6 6) .nil),stv18),
  ((.cons (bxo 2 0 2 10 2 4) .nil),stv18),
  ((.cons (bxo 2 4 2 10 6 4) .nil),stv18),
  ((.cons (bxo 8 2 2 10 4 4) .nil),stv18)]
theorem stranDi21 : ranAll Tryz.prog stov2 313 stDi21 = true:=by decide +kernel
noncomputable def stDi22 : List (AV × AV):=[
  ((.cons (bxo 0 0 0 3 9 9) .nil),stv18),
  ((.cons (bxo 3 0 0 6 9 3) .nil),stv18),
  ((.cons (bxo 3 0 6 6 9 9) .nil),stv18),
  ((.cons (bxo 3 0 0 9 9 3) .nil),stv18),
  ((.cons (bxo 3 0 6 9 9 9) .nil),stv18),
  ((.cons (bxo 3 0 0 12 9 3) .nil),stv18),
  ((.cons (bxo 3 0 6 12 9 9) .nil),stv18),
  ((.cons (bxo 3 0 0 15 9 3) .nil),stv18),
  ((.cons (bxo 3 0 6 15 9 9) .nil),stv18),
  ((.cons (bxo 3 0 3 15 3 6) .nil),stv18),
  ((.cons (bxo 3 6 3 15 9 6) .nil),stv18),
  ((.cons (bxo 12 3 3 15 6 6) .nil),stv18)]
theorem stranDi22 : ranAll Tryz.prog stov2 313 stDi22 = true:=by decide +kernel
noncomputable def stDi23 : List (AV × AV):=[
  ((.cons (bxo 0 0 0 4 12 12) .nil),stv18),
  ((.cons (bxo 4 0 0 8 12 4) .nil),stv18),
  ((.cons (bxo 4 0 8 8 12 12) .nil),stv18),
  ((.cons (bxo 4 0 0 12 12 4) .nil),stv18),
  ((.cons (bxo 4 0 8 12 12 12) .nil),stv18),
  ((.cons (bxo 4 0 0 16 12 4) .nil),stv18),
  ((.cons (bxo 4 0 8 16 12 12) .nil),stv18),
  ((.cons (bxo 4 0 0 20 12 4) .nil),stv18),
  ((.cons (bxo 4 0 8 20 12 12) .nil),stv18),
  ((.cons (bxo 4 0 4 20 4 8) .nil),stv18),
  ((.cons (bxo 4 8 4 20 12 8) .nil),stv18),
  ((.cons (bxo 16 4 4 20 8 8) .nil),stv18)]
theorem stranDi23 : ranAll Tryz.prog stov2 313 stDi23 = true:=by decide +kernel
end Go.Sy
