/- Runs of dowel/cell.Volume. -/
import Derived.Test.YtialjngnlekplaaGreatDoorStO1
namespace Go.Sy
open Go.RowKit Go.Proofs
set_option linter.unusedVariables false
set_option maxRecDepth 1000000
set_option maxHeartbeats 0
noncomputable def stVo0 : List (AV × AV) := [
  ((.cons (bxo 0 0 0 2 10 2) .nil), (.agg (qd [(40, 1)] .nil))),
  ((.cons (bxo 12 0 0 14 10 2) .nil), (.agg (qd [(40, 1)] .nil))),
  ((.cons (bxo 2 0 0 12 2 2) .nil), (.agg (qd [(40, 1)] .nil))),
  ((.cons (bxo 2 8 0 12 10 2) .nil), (.agg (qd [(40, 1)] .nil))),
  ((.cons (bxo 8 4 (-4) 10 6 6) .nil), (.agg (qd [(40, 1)] .nil))),
  ((.cons (bxo 20 4 (-4) 22 6 6) .nil), (.agg (qd [(40, 1)] .nil))),
  ((.cons (bxo 10 4 (-4) 20 6 (-2)) .nil), (.agg (qd [(40, 1)] .nil))),
  ((.cons (bxo 10 4 4 20 6 6) .nil), (.agg (qd [(40, 1)] .nil))),
  ((.cons (bxo 0 0 0 20 4 4) .nil), (.agg (qd [(320, 1)] .nil))),
  ((.cons (bxo 0 0 4 4 4 8) .nil), (.agg (qd [(64, 1)] .nil)))]
theorem stranVo0 : ranAll Tryz.prog stov2 44 stVo0 = true := by decide +kernel
noncomputable def stVo1 : List (AV × AV) := [
  ((.cons (bxo 16 0 4 20 4 8) .nil), (.agg (qd [(64, 1)] .nil))),
  ((.cons (bxo 0 0 8 8 4 12) .nil), (.agg (qd [(128, 1)] .nil))),
  ((.cons (bxo 12 0 8 20 4 12) .nil), (.agg (qd [(128, 1)] .nil))),
  ((.cons (bxo 4 0 4 16 4 8) .nil), (.agg (qd [(192, 1)] .nil))),
  ((.cons (bxo 8 0 8 12 4 16) .nil), (.agg (qd [(128, 1)] .nil))),
  ((.cons (bxo 0 0 0 15 9 3) .nil), (.agg (qd [(405, 1)] .nil))),
  ((.cons (bxo 0 0 3 3 9 6) .nil), (.agg (qd [(81, 1)] .nil))),
  ((.cons (bxo 12 0 3 15 9 6) .nil), (.agg (qd [(81, 1)] .nil))),
  ((.cons (bxo 3 0 3 12 3 6) .nil), (.agg (qd [(81, 1)] .nil))),
  ((.cons (bxo 3 6 3 12 9 6) .nil), (.agg (qd [(81, 1)] .nil)))]
theorem stranVo1 : ranAll Tryz.prog stov2 44 stVo1 = true := by decide +kernel
noncomputable def stVo2 : List (AV × AV) := [
  ((.cons (bxo 3 3 3 6 6 6) .nil), (.agg (qd [(27, 1)] .nil))),
  ((.cons (bxo 6 3 3 9 6 6) .nil), (.agg (qd [(27, 1)] .nil))),
  ((.cons (bxo 9 3 3 12 6 6) .nil), (.agg (qd [(27, 1)] .nil))),
  ((.cons (bxo 0 0 6 15 9 9) .nil), (.agg (qd [(405, 1)] .nil))),
  ((.cons (bxo 0 0 0 4 4 4) .nil), (.agg (qd [(64, 1)] .nil))),
  ((.cons (bxo 0 0 8 4 4 12) .nil), (.agg (qd [(64, 1)] .nil))),
  ((.cons (bxo 0 0 12 4 4 16) .nil), (.agg (qd [(64, 1)] .nil))),
  ((.cons (bxo 0 0 0 1 3 3) .nil), (.agg (qd [(9, 1)] .nil))),
  ((.cons (bxo 1 0 0 3 3 1) .nil), (.agg (qd [(6, 1)] .nil))),
  ((.cons (bxo 1 0 2 3 3 3) .nil), (.agg (qd [(6, 1)] .nil)))]
theorem stranVo2 : ranAll Tryz.prog stov2 44 stVo2 = true := by decide +kernel
noncomputable def stVo3 : List (AV × AV) := [
  ((.cons (bxo 1 0 1 3 1 2) .nil), (.agg (qd [(2, 1)] .nil))),
  ((.cons (bxo 1 2 1 3 3 2) .nil), (.agg (qd [(2, 1)] .nil))),
  ((.cons (bxo 1 1 1 2 2 2) .nil), (.agg (qd [(1, 1)] .nil))),
  ((.cons (bxo 2 1 1 3 2 2) .nil), (.agg (qd [(1, 1)] .nil))),
  ((.cons (bxo 0 0 0 16 12 4) .nil), (.agg (qd [(768, 1)] .nil))),
  ((.cons (bxo 0 0 4 4 12 8) .nil), (.agg (qd [(192, 1)] .nil))),
  ((.cons (bxo 12 0 4 16 12 8) .nil), (.agg (qd [(192, 1)] .nil))),
  ((.cons (bxo 4 0 4 12 4 8) .nil), (.agg (qd [(128, 1)] .nil))),
  ((.cons (bxo 4 8 4 12 12 8) .nil), (.agg (qd [(128, 1)] .nil))),
  ((.cons (bxo 4 4 4 8 8 8) .nil), (.agg (qd [(64, 1)] .nil)))]
theorem stranVo3 : ranAll Tryz.prog stov2 44 stVo3 = true := by decide +kernel
noncomputable def stVo4 : List (AV × AV) := [
  ((.cons (bxo 8 4 4 12 8 8) .nil), (.agg (qd [(64, 1)] .nil))),
  ((.cons (bxo 0 0 8 16 12 12) .nil), (.agg (qd [(768, 1)] .nil))),
  ((.cons (bxo 0 3 0 3 6 3) .nil), (.agg (qd [(27, 1)] .nil))),
  ((.cons (bxo 6 3 0 9 6 3) .nil), (.agg (qd [(27, 1)] .nil))),
  ((.cons (bxo 12 3 0 15 6 3) .nil), (.agg (qd [(27, 1)] .nil))),
  ((.cons (bxo 0 0 0 15 3 3) .nil), (.agg (qd [(135, 1)] .nil))),
  ((.cons (bxo 0 6 0 15 9 3) .nil), (.agg (qd [(135, 1)] .nil))),
  ((.cons (bxo 3 3 (-3) 6 6 6) .nil), (.agg (qd [(81, 1)] .nil))),
  ((.cons (bxo 9 3 (-3) 12 6 6) .nil), (.agg (qd [(81, 1)] .nil))),
  ((.cons (bxo 0 2 0 2 4 2) .nil), (.agg (qd [(8, 1)] .nil)))]
theorem stranVo4 : ranAll Tryz.prog stov2 44 stVo4 = true := by decide +kernel
noncomputable def stVo5 : List (AV × AV) := [
  ((.cons (bxo 4 2 0 6 4 2) .nil), (.agg (qd [(8, 1)] .nil))),
  ((.cons (bxo 0 0 0 6 2 2) .nil), (.agg (qd [(24, 1)] .nil))),
  ((.cons (bxo 0 4 0 6 6 2) .nil), (.agg (qd [(24, 1)] .nil))),
  ((.cons (bxo 2 2 (-2) 4 4 4) .nil), (.agg (qd [(24, 1)] .nil))),
  ((.cons (bxo 0 0 0 3 15 3) .nil), (.agg (qd [(135, 1)] .nil))),
  ((.cons (bxo 18 0 0 21 15 3) .nil), (.agg (qd [(135, 1)] .nil))),
  ((.cons (bxo 3 0 0 18 3 3) .nil), (.agg (qd [(135, 1)] .nil))),
  ((.cons (bxo 3 12 0 18 15 3) .nil), (.agg (qd [(135, 1)] .nil))),
  ((.cons (bxo 12 6 (-6) 15 9 9) .nil), (.agg (qd [(135, 1)] .nil))),
  ((.cons (bxo 30 6 (-6) 33 9 9) .nil), (.agg (qd [(135, 1)] .nil)))]
theorem stranVo5 : ranAll Tryz.prog stov2 44 stVo5 = true := by decide +kernel
noncomputable def stVo6 : List (AV × AV) := [
  ((.cons (bxo 15 6 (-6) 30 9 (-3)) .nil), (.agg (qd [(135, 1)] .nil))),
  ((.cons (bxo 15 6 6 30 9 9) .nil), (.agg (qd [(135, 1)] .nil))),
  ((.cons (bxo 0 0 0 4 20 4) .nil), (.agg (qd [(320, 1)] .nil))),
  ((.cons (bxo 24 0 0 28 20 4) .nil), (.agg (qd [(320, 1)] .nil))),
  ((.cons (bxo 4 0 0 24 4 4) .nil), (.agg (qd [(320, 1)] .nil))),
  ((.cons (bxo 4 16 0 24 20 4) .nil), (.agg (qd [(320, 1)] .nil))),
  ((.cons (bxo 16 8 (-8) 20 12 12) .nil), (.agg (qd [(320, 1)] .nil))),
  ((.cons (bxo 40 8 (-8) 44 12 12) .nil), (.agg (qd [(320, 1)] .nil))),
  ((.cons (bxo 20 8 (-8) 40 12 (-4)) .nil), (.agg (qd [(320, 1)] .nil))),
  ((.cons (bxo 20 8 8 40 12 12) .nil), (.agg (qd [(320, 1)] .nil)))]
theorem stranVo6 : ranAll Tryz.prog stov2 44 stVo6 = true := by decide +kernel
noncomputable def stVo7 : List (AV × AV) := [
  ((.cons (bxo 0 0 0 3 9 9) .nil), (.agg (qd [(243, 1)] .nil))),
  ((.cons (bxo 3 0 0 12 9 3) .nil), (.agg (qd [(243, 1)] .nil))),
  ((.cons (bxo 3 0 6 12 9 9) .nil), (.agg (qd [(243, 1)] .nil))),
  ((.cons (bxo 0 0 0 10 4 2) .nil), (.agg (qd [(80, 1)] .nil))),
  ((.cons (bxo 0 0 2 2 4 4) .nil), (.agg (qd [(16, 1)] .nil))),
  ((.cons (bxo 8 0 2 10 4 4) .nil), (.agg (qd [(16, 1)] .nil))),
  ((.cons (bxo 0 0 4 4 4 6) .nil), (.agg (qd [(32, 1)] .nil))),
  ((.cons (bxo 6 0 4 10 4 6) .nil), (.agg (qd [(32, 1)] .nil))),
  ((.cons (bxo 2 0 2 8 2 4) .nil), (.agg (qd [(24, 1)] .nil))),
  ((.cons (bxo 4 0 4 6 2 8) .nil), (.agg (qd [(16, 1)] .nil)))]
theorem stranVo7 : ranAll Tryz.prog stov2 44 stVo7 = true := by decide +kernel
noncomputable def stVo8 : List (AV × AV) := [
  ((.cons (bxo 2 2 2 8 4 4) .nil), (.agg (qd [(24, 1)] .nil))),
  ((.cons (bxo 4 2 4 6 4 8) .nil), (.agg (qd [(16, 1)] .nil))),
  ((.cons (bxo 0 1 0 1 2 1) .nil), (.agg (qd [(1, 1)] .nil))),
  ((.cons (bxo 2 1 0 3 2 1) .nil), (.agg (qd [(1, 1)] .nil))),
  ((.cons (bxo 0 0 0 3 1 1) .nil), (.agg (qd [(3, 1)] .nil))),
  ((.cons (bxo 0 2 0 3 3 1) .nil), (.agg (qd [(3, 1)] .nil))),
  ((.cons (bxo 1 1 (-1) 2 2 2) .nil), (.agg (qd [(3, 1)] .nil))),
  ((.cons (bxo 0 0 0 3 3 3) .nil), (.agg (qd [(27, 1)] .nil))),
  ((.cons (bxo 0 0 3 3 3 6) .nil), (.agg (qd [(27, 1)] .nil))),
  ((.cons (bxo 0 0 6 3 3 9) .nil), (.agg (qd [(27, 1)] .nil)))]
theorem stranVo8 : ranAll Tryz.prog stov2 44 stVo8 = true := by decide +kernel
noncomputable def stVo9 : List (AV × AV) := [
  ((.cons (bxo 0 0 9 3 3 12) .nil), (.agg (qd [(27, 1)] .nil))),
  ((.cons (bxo 0 0 12 3 3 15) .nil), (.agg (qd [(27, 1)] .nil))),
  ((.cons (bxo 0 0 15 3 3 18) .nil), (.agg (qd [(27, 1)] .nil))),
  ((.cons (bxo 0 4 0 4 8 4) .nil), (.agg (qd [(64, 1)] .nil))),
  ((.cons (bxo 8 4 0 12 8 4) .nil), (.agg (qd [(64, 1)] .nil))),
  ((.cons (bxo 16 4 0 20 8 4) .nil), (.agg (qd [(64, 1)] .nil))),
  ((.cons (bxo 0 8 0 20 12 4) .nil), (.agg (qd [(320, 1)] .nil))),
  ((.cons (bxo 4 4 (-4) 8 8 8) .nil), (.agg (qd [(192, 1)] .nil))),
  ((.cons (bxo 12 4 (-4) 16 8 8) .nil), (.agg (qd [(192, 1)] .nil))),
  ((.cons (bxo 0 0 0 4 12 12) .nil), (.agg (qd [(576, 1)] .nil)))]
theorem stranVo9 : ranAll Tryz.prog stov2 44 stVo9 = true := by decide +kernel
noncomputable def stVo10 : List (AV × AV) := [
  ((.cons (bxo 4 0 0 16 12 4) .nil), (.agg (qd [(576, 1)] .nil))),
  ((.cons (bxo 4 0 8 16 12 12) .nil), (.agg (qd [(576, 1)] .nil))),
  ((.cons (bxo 4 8 4 16 12 8) .nil), (.agg (qd [(192, 1)] .nil))),
  ((.cons (bxo 12 4 4 16 8 8) .nil), (.agg (qd [(64, 1)] .nil))),
  ((.cons (bxo 0 0 0 2 2 2) .nil), (.agg (qd [(8, 1)] .nil))),
  ((.cons (bxo 0 0 2 2 2 4) .nil), (.agg (qd [(8, 1)] .nil))),
  ((.cons (bxo 0 0 4 2 2 6) .nil), (.agg (qd [(8, 1)] .nil))),
  ((.cons (bxo 0 0 6 2 2 8) .nil), (.agg (qd [(8, 1)] .nil))),
  ((.cons (bxo 0 0 8 2 2 10) .nil), (.agg (qd [(8, 1)] .nil))),
  ((.cons (bxo 0 0 0 2 6 6) .nil), (.agg (qd [(72, 1)] .nil)))]
theorem stranVo10 : ranAll Tryz.prog stov2 44 stVo10 = true := by decide +kernel
noncomputable def stVo11 : List (AV × AV) := [
  ((.cons (bxo 2 0 0 8 6 2) .nil), (.agg (qd [(72, 1)] .nil))),
  ((.cons (bxo 2 0 4 8 6 6) .nil), (.agg (qd [(72, 1)] .nil))),
  ((.cons (bxo 2 4 2 8 6 4) .nil), (.agg (qd [(24, 1)] .nil))),
  ((.cons (bxo 2 2 2 4 4 4) .nil), (.agg (qd [(8, 1)] .nil))),
  ((.cons (bxo 4 2 2 6 4 4) .nil), (.agg (qd [(8, 1)] .nil))),
  ((.cons (bxo 6 2 2 8 4 4) .nil), (.agg (qd [(8, 1)] .nil))),
  ((.cons (bxo 0 0 0 20 12 4) .nil), (.agg (qd [(960, 1)] .nil))),
  ((.cons (bxo 16 0 4 20 12 8) .nil), (.agg (qd [(192, 1)] .nil))),
  ((.cons (bxo 0 0 8 20 12 12) .nil), (.agg (qd [(960, 1)] .nil))),
  ((.cons (bxo 3 0 0 6 9 3) .nil), (.agg (qd [(81, 1)] .nil)))]
theorem stranVo11 : ranAll Tryz.prog stov2 44 stVo11 = true := by decide +kernel
noncomputable def stVo12 : List (AV × AV) := [
  ((.cons (bxo 3 0 6 6 9 9) .nil), (.agg (qd [(81, 1)] .nil))),
  ((.cons (bxo 3 0 3 6 3 6) .nil), (.agg (qd [(27, 1)] .nil))),
  ((.cons (bxo 3 6 3 6 9 6) .nil), (.agg (qd [(27, 1)] .nil))),
  ((.cons (bxo 18 3 0 21 6 3) .nil), (.agg (qd [(27, 1)] .nil))),
  ((.cons (bxo 0 0 0 21 3 3) .nil), (.agg (qd [(189, 1)] .nil))),
  ((.cons (bxo 0 6 0 21 9 3) .nil), (.agg (qd [(189, 1)] .nil))),
  ((.cons (bxo 15 3 (-3) 18 6 6) .nil), (.agg (qd [(81, 1)] .nil))),
  ((.cons (bxo 0 0 0 1 5 1) .nil), (.agg (qd [(5, 1)] .nil))),
  ((.cons (bxo 6 0 0 7 5 1) .nil), (.agg (qd [(5, 1)] .nil))),
  ((.cons (bxo 1 0 0 6 1 1) .nil), (.agg (qd [(5, 1)] .nil)))]
theorem stranVo12 : ranAll Tryz.prog stov2 44 stVo12 = true := by decide +kernel
noncomputable def stVo13 : List (AV × AV) := [
  ((.cons (bxo 1 4 0 6 5 1) .nil), (.agg (qd [(5, 1)] .nil))),
  ((.cons (bxo 4 2 (-2) 5 3 3) .nil), (.agg (qd [(5, 1)] .nil))),
  ((.cons (bxo 10 2 (-2) 11 3 3) .nil), (.agg (qd [(5, 1)] .nil))),
  ((.cons (bxo 5 2 (-2) 10 3 (-1)) .nil), (.agg (qd [(5, 1)] .nil))),
  ((.cons (bxo 5 2 2 10 3 3) .nil), (.agg (qd [(5, 1)] .nil))),
  ((.cons (bxo 8 0 0 9 5 1) .nil), (.agg (qd [(5, 1)] .nil))),
  ((.cons (bxo 14 0 0 15 5 1) .nil), (.agg (qd [(5, 1)] .nil))),
  ((.cons (bxo 9 0 0 14 1 1) .nil), (.agg (qd [(5, 1)] .nil))),
  ((.cons (bxo 9 4 0 14 5 1) .nil), (.agg (qd [(5, 1)] .nil))),
  ((.cons (bxo 12 2 (-2) 13 3 3) .nil), (.agg (qd [(5, 1)] .nil)))]
theorem stranVo13 : ranAll Tryz.prog stov2 44 stVo13 = true := by decide +kernel
noncomputable def stVo14 : List (AV × AV) := [
  ((.cons (bxo 18 2 (-2) 19 3 3) .nil), (.agg (qd [(5, 1)] .nil))),
  ((.cons (bxo 13 2 (-2) 18 3 (-1)) .nil), (.agg (qd [(5, 1)] .nil))),
  ((.cons (bxo 13 2 2 18 3 3) .nil), (.agg (qd [(5, 1)] .nil))),
  ((.cons (bxo 24 4 0 28 8 4) .nil), (.agg (qd [(64, 1)] .nil))),
  ((.cons (bxo 0 0 0 28 4 4) .nil), (.agg (qd [(448, 1)] .nil))),
  ((.cons (bxo 0 8 0 28 12 4) .nil), (.agg (qd [(448, 1)] .nil))),
  ((.cons (bxo 20 4 (-4) 24 8 8) .nil), (.agg (qd [(192, 1)] .nil))),
  ((.cons (bxo 8 2 0 10 4 2) .nil), (.agg (qd [(8, 1)] .nil))),
  ((.cons (bxo 0 0 0 10 2 2) .nil), (.agg (qd [(40, 1)] .nil))),
  ((.cons (bxo 0 4 0 10 6 2) .nil), (.agg (qd [(40, 1)] .nil)))]
theorem stranVo14 : ranAll Tryz.prog stov2 44 stVo14 = true := by decide +kernel
noncomputable def stVo15 : List (AV × AV) := [
  ((.cons (bxo 6 2 (-2) 8 4 4) .nil), (.agg (qd [(24, 1)] .nil))),
  ((.cons (bxo 3 0 0 15 9 3) .nil), (.agg (qd [(324, 1)] .nil))),
  ((.cons (bxo 3 0 6 15 9 9) .nil), (.agg (qd [(324, 1)] .nil))),
  ((.cons (bxo 3 0 3 15 3 6) .nil), (.agg (qd [(108, 1)] .nil))),
  ((.cons (bxo 3 6 3 15 9 6) .nil), (.agg (qd [(108, 1)] .nil))),
  ((.cons (bxo 12 3 3 15 6 6) .nil), (.agg (qd [(27, 1)] .nil))),
  ((.cons (bxo 0 0 0 9 9 3) .nil), (.agg (qd [(243, 1)] .nil))),
  ((.cons (bxo 6 0 3 9 9 6) .nil), (.agg (qd [(81, 1)] .nil))),
  ((.cons (bxo 0 0 6 9 9 9) .nil), (.agg (qd [(243, 1)] .nil))),
  ((.cons (bxo 24 0 0 27 15 3) .nil), (.agg (qd [(135, 1)] .nil)))]
theorem stranVo15 : ranAll Tryz.prog stov2 44 stVo15 = true := by decide +kernel
noncomputable def stVo16 : List (AV × AV) := [
  ((.cons (bxo 42 0 0 45 15 3) .nil), (.agg (qd [(135, 1)] .nil))),
  ((.cons (bxo 27 0 0 42 3 3) .nil), (.agg (qd [(135, 1)] .nil))),
  ((.cons (bxo 27 12 0 42 15 3) .nil), (.agg (qd [(135, 1)] .nil))),
  ((.cons (bxo 36 6 (-6) 39 9 9) .nil), (.agg (qd [(135, 1)] .nil))),
  ((.cons (bxo 54 6 (-6) 57 9 9) .nil), (.agg (qd [(135, 1)] .nil))),
  ((.cons (bxo 39 6 (-6) 54 9 (-3)) .nil), (.agg (qd [(135, 1)] .nil))),
  ((.cons (bxo 39 6 6 54 9 9) .nil), (.agg (qd [(135, 1)] .nil))),
  ((.cons (bxo 16 0 0 18 10 2) .nil), (.agg (qd [(40, 1)] .nil))),
  ((.cons (bxo 28 0 0 30 10 2) .nil), (.agg (qd [(40, 1)] .nil))),
  ((.cons (bxo 18 0 0 28 2 2) .nil), (.agg (qd [(40, 1)] .nil)))]
theorem stranVo16 : ranAll Tryz.prog stov2 44 stVo16 = true := by decide +kernel
noncomputable def stVo17 : List (AV × AV) := [
  ((.cons (bxo 18 8 0 28 10 2) .nil), (.agg (qd [(40, 1)] .nil))),
  ((.cons (bxo 24 4 (-4) 26 6 6) .nil), (.agg (qd [(40, 1)] .nil))),
  ((.cons (bxo 36 4 (-4) 38 6 6) .nil), (.agg (qd [(40, 1)] .nil))),
  ((.cons (bxo 26 4 (-4) 36 6 (-2)) .nil), (.agg (qd [(40, 1)] .nil))),
  ((.cons (bxo 26 4 4 36 6 6) .nil), (.agg (qd [(40, 1)] .nil))),
  ((.cons (bxo 0 0 0 20 8 4) .nil), (.agg (qd [(640, 1)] .nil))),
  ((.cons (bxo 0 0 4 4 8 8) .nil), (.agg (qd [(128, 1)] .nil))),
  ((.cons (bxo 16 0 4 20 8 8) .nil), (.agg (qd [(128, 1)] .nil))),
  ((.cons (bxo 0 0 8 8 8 12) .nil), (.agg (qd [(256, 1)] .nil))),
  ((.cons (bxo 12 0 8 20 8 12) .nil), (.agg (qd [(256, 1)] .nil)))]
theorem stranVo17 : ranAll Tryz.prog stov2 44 stVo17 = true := by decide +kernel
noncomputable def stVo18 : List (AV × AV) := [
  ((.cons (bxo 4 4 4 16 8 8) .nil), (.agg (qd [(192, 1)] .nil))),
  ((.cons (bxo 8 4 8 12 8 16) .nil), (.agg (qd [(128, 1)] .nil))),
  ((.cons (bxo 0 0 0 5 3 1) .nil), (.agg (qd [(15, 1)] .nil))),
  ((.cons (bxo 0 0 1 1 3 2) .nil), (.agg (qd [(3, 1)] .nil))),
  ((.cons (bxo 4 0 1 5 3 2) .nil), (.agg (qd [(3, 1)] .nil))),
  ((.cons (bxo 1 0 1 4 1 2) .nil), (.agg (qd [(3, 1)] .nil))),
  ((.cons (bxo 1 2 1 4 3 2) .nil), (.agg (qd [(3, 1)] .nil))),
  ((.cons (bxo 3 1 1 4 2 2) .nil), (.agg (qd [(1, 1)] .nil))),
  ((.cons (bxo 0 0 2 5 3 3) .nil), (.agg (qd [(15, 1)] .nil))),
  ((.cons (bxo 0 0 0 10 6 2) .nil), (.agg (qd [(120, 1)] .nil)))]
theorem stranVo18 : ranAll Tryz.prog stov2 44 stVo18 = true := by decide +kernel
noncomputable def stVo19 : List (AV × AV) := [
  ((.cons (bxo 0 0 2 2 6 4) .nil), (.agg (qd [(24, 1)] .nil))),
  ((.cons (bxo 8 0 2 10 6 4) .nil), (.agg (qd [(24, 1)] .nil))),
  ((.cons (bxo 0 0 4 4 6 6) .nil), (.agg (qd [(48, 1)] .nil))),
  ((.cons (bxo 6 0 4 10 6 6) .nil), (.agg (qd [(48, 1)] .nil))),
  ((.cons (bxo 4 4 4 6 6 8) .nil), (.agg (qd [(16, 1)] .nil))),
  ((.cons (bxo 4 1 0 5 2 1) .nil), (.agg (qd [(1, 1)] .nil))),
  ((.cons (bxo 6 1 0 7 2 1) .nil), (.agg (qd [(1, 1)] .nil))),
  ((.cons (bxo 0 0 0 7 1 1) .nil), (.agg (qd [(7, 1)] .nil))),
  ((.cons (bxo 0 2 0 7 3 1) .nil), (.agg (qd [(7, 1)] .nil))),
  ((.cons (bxo 3 1 (-1) 4 2 2) .nil), (.agg (qd [(3, 1)] .nil)))]
theorem stranVo19 : ranAll Tryz.prog stov2 44 stVo19 = true := by decide +kernel
noncomputable def stVo20 : List (AV × AV) := [
  ((.cons (bxo 5 1 (-1) 6 2 2) .nil), (.agg (qd [(3, 1)] .nil))),
  ((.cons (bxo 1 0 0 5 3 1) .nil), (.agg (qd [(12, 1)] .nil))),
  ((.cons (bxo 1 0 2 5 3 3) .nil), (.agg (qd [(12, 1)] .nil))),
  ((.cons (bxo 1 0 1 5 1 2) .nil), (.agg (qd [(4, 1)] .nil))),
  ((.cons (bxo 1 2 1 5 3 2) .nil), (.agg (qd [(4, 1)] .nil))),
  ((.cons (bxo 4 1 1 5 2 2) .nil), (.agg (qd [(1, 1)] .nil))),
  ((.cons (bxo 0 0 0 1 1 1) .nil), (.agg (qd [(1, 1)] .nil))),
  ((.cons (bxo 0 0 1 1 1 2) .nil), (.agg (qd [(1, 1)] .nil))),
  ((.cons (bxo 0 0 2 1 1 3) .nil), (.agg (qd [(1, 1)] .nil))),
  ((.cons (bxo 0 0 3 1 1 4) .nil), (.agg (qd [(1, 1)] .nil)))]
theorem stranVo20 : ranAll Tryz.prog stov2 44 stVo20 = true := by decide +kernel
noncomputable def stVo21 : List (AV × AV) := [
  ((.cons (bxo 0 0 4 1 1 5) .nil), (.agg (qd [(1, 1)] .nil))),
  ((.cons (bxo 0 0 5 1 1 6) .nil), (.agg (qd [(1, 1)] .nil))),
  ((.cons (bxo 0 0 0 9 3 3) .nil), (.agg (qd [(81, 1)] .nil))),
  ((.cons (bxo 0 6 0 9 9 3) .nil), (.agg (qd [(81, 1)] .nil))),
  ((.cons (bxo 2 0 0 6 6 2) .nil), (.agg (qd [(48, 1)] .nil))),
  ((.cons (bxo 2 0 4 6 6 6) .nil), (.agg (qd [(48, 1)] .nil))),
  ((.cons (bxo 2 0 2 6 2 4) .nil), (.agg (qd [(16, 1)] .nil))),
  ((.cons (bxo 2 4 2 6 6 4) .nil), (.agg (qd [(16, 1)] .nil))),
  ((.cons (bxo 8 0 2 10 2 4) .nil), (.agg (qd [(8, 1)] .nil))),
  ((.cons (bxo 0 0 4 4 2 6) .nil), (.agg (qd [(16, 1)] .nil)))]
theorem stranVo21 : ranAll Tryz.prog stov2 44 stVo21 = true := by decide +kernel
noncomputable def stVo22 : List (AV × AV) := [
  ((.cons (bxo 6 0 4 10 2 6) .nil), (.agg (qd [(16, 1)] .nil))),
  ((.cons (bxo 0 0 0 3 3 1) .nil), (.agg (qd [(9, 1)] .nil))),
  ((.cons (bxo 2 0 1 3 3 2) .nil), (.agg (qd [(3, 1)] .nil))),
  ((.cons (bxo 1 0 1 2 1 2) .nil), (.agg (qd [(1, 1)] .nil))),
  ((.cons (bxo 1 2 1 2 3 2) .nil), (.agg (qd [(1, 1)] .nil))),
  ((.cons (bxo 0 0 2 3 3 3) .nil), (.agg (qd [(9, 1)] .nil))),
  ((.cons (bxo 4 0 0 12 12 4) .nil), (.agg (qd [(384, 1)] .nil))),
  ((.cons (bxo 4 0 8 12 12 12) .nil), (.agg (qd [(384, 1)] .nil))),
  ((.cons (bxo 0 0 8 8 12 12) .nil), (.agg (qd [(384, 1)] .nil))),
  ((.cons (bxo 12 0 8 20 12 12) .nil), (.agg (qd [(384, 1)] .nil)))]
theorem stranVo22 : ranAll Tryz.prog stov2 44 stVo22 = true := by decide +kernel
noncomputable def stVo23 : List (AV × AV) := [
  ((.cons (bxo 8 8 8 12 12 16) .nil), (.agg (qd [(128, 1)] .nil))),
  ((.cons (bxo 0 0 0 15 6 3) .nil), (.agg (qd [(270, 1)] .nil))),
  ((.cons (bxo 0 0 3 3 6 6) .nil), (.agg (qd [(54, 1)] .nil))),
  ((.cons (bxo 12 0 3 15 6 6) .nil), (.agg (qd [(54, 1)] .nil))),
  ((.cons (bxo 0 0 6 6 6 9) .nil), (.agg (qd [(108, 1)] .nil))),
  ((.cons (bxo 9 0 6 15 6 9) .nil), (.agg (qd [(108, 1)] .nil))),
  ((.cons (bxo 6 0 6 9 3 12) .nil), (.agg (qd [(54, 1)] .nil))),
  ((.cons (bxo 3 3 3 12 6 6) .nil), (.agg (qd [(81, 1)] .nil))),
  ((.cons (bxo 6 3 6 9 6 12) .nil), (.agg (qd [(54, 1)] .nil))),
  ((.cons (bxo 12 0 3 15 3 6) .nil), (.agg (qd [(27, 1)] .nil)))]
theorem stranVo23 : ranAll Tryz.prog stov2 44 stVo23 = true := by decide +kernel
noncomputable def stVo24 : List (AV × AV) := [
  ((.cons (bxo 0 0 6 6 3 9) .nil), (.agg (qd [(54, 1)] .nil))),
  ((.cons (bxo 9 0 6 15 3 9) .nil), (.agg (qd [(54, 1)] .nil))),
  ((.cons (bxo 0 0 0 5 2 1) .nil), (.agg (qd [(10, 1)] .nil))),
  ((.cons (bxo 0 0 1 1 2 2) .nil), (.agg (qd [(2, 1)] .nil))),
  ((.cons (bxo 4 0 1 5 2 2) .nil), (.agg (qd [(2, 1)] .nil))),
  ((.cons (bxo 0 0 2 2 2 3) .nil), (.agg (qd [(4, 1)] .nil))),
  ((.cons (bxo 3 0 2 5 2 3) .nil), (.agg (qd [(4, 1)] .nil))),
  ((.cons (bxo 2 0 2 3 1 4) .nil), (.agg (qd [(2, 1)] .nil))),
  ((.cons (bxo 1 1 1 4 2 2) .nil), (.agg (qd [(3, 1)] .nil))),
  ((.cons (bxo 2 1 2 3 2 4) .nil), (.agg (qd [(2, 1)] .nil)))]
theorem stranVo24 : ranAll Tryz.prog stov2 44 stVo24 = true := by decide +kernel
noncomputable def stVo25 : List (AV × AV) := [
  ((.cons (bxo 32 0 0 36 20 4) .nil), (.agg (qd [(320, 1)] .nil))),
  ((.cons (bxo 56 0 0 60 20 4) .nil), (.agg (qd [(320, 1)] .nil))),
  ((.cons (bxo 36 0 0 56 4 4) .nil), (.agg (qd [(320, 1)] .nil))),
  ((.cons (bxo 36 16 0 56 20 4) .nil), (.agg (qd [(320, 1)] .nil))),
  ((.cons (bxo 0 0 0 12 4 4) .nil), (.agg (qd [(192, 1)] .nil))),
  ((.cons (bxo 0 8 0 12 12 4) .nil), (.agg (qd [(192, 1)] .nil))),
  ((.cons (bxo 1 0 0 4 3 1) .nil), (.agg (qd [(9, 1)] .nil))),
  ((.cons (bxo 1 0 2 4 3 3) .nil), (.agg (qd [(9, 1)] .nil))),
  ((.cons (bxo 0 0 16 4 4 20) .nil), (.agg (qd [(64, 1)] .nil))),
  ((.cons (bxo 0 0 4 10 6 6) .nil), (.agg (qd [(120, 1)] .nil)))]
theorem stranVo25 : ranAll Tryz.prog stov2 44 stVo25 = true := by decide +kernel
noncomputable def stVo26 : List (AV × AV) := [
  ((.cons (bxo 0 0 0 6 6 2) .nil), (.agg (qd [(72, 1)] .nil))),
  ((.cons (bxo 4 0 2 6 6 4) .nil), (.agg (qd [(24, 1)] .nil))),
  ((.cons (bxo 2 0 2 4 2 4) .nil), (.agg (qd [(8, 1)] .nil))),
  ((.cons (bxo 2 4 2 4 6 4) .nil), (.agg (qd [(8, 1)] .nil))),
  ((.cons (bxo 0 0 4 6 6 6) .nil), (.agg (qd [(72, 1)] .nil))),
  ((.cons (bxo 0 0 0 12 12 4) .nil), (.agg (qd [(576, 1)] .nil))),
  ((.cons (bxo 8 0 4 12 12 8) .nil), (.agg (qd [(192, 1)] .nil))),
  ((.cons (bxo 4 0 4 8 4 8) .nil), (.agg (qd [(64, 1)] .nil))),
  ((.cons (bxo 4 8 4 8 12 8) .nil), (.agg (qd [(64, 1)] .nil))),
  ((.cons (bxo 0 0 8 12 12 12) .nil), (.agg (qd [(576, 1)] .nil)))]
theorem stranVo26 : ranAll Tryz.prog stov2 44 stVo26 = true := by decide +kernel
noncomputable def stVo27 : List (AV × AV) := [
  ((.cons (bxo 48 8 (-8) 52 12 12) .nil), (.agg (qd [(320, 1)] .nil))),
  ((.cons (bxo 72 8 (-8) 76 12 12) .nil), (.agg (qd [(320, 1)] .nil))),
  ((.cons (bxo 52 8 (-8) 72 12 (-4)) .nil), (.agg (qd [(320, 1)] .nil))),
  ((.cons (bxo 52 8 8 72 12 12) .nil), (.agg (qd [(320, 1)] .nil))),
  ((.cons (bxo 4 0 0 8 12 4) .nil), (.agg (qd [(192, 1)] .nil))),
  ((.cons (bxo 4 0 8 8 12 12) .nil), (.agg (qd [(192, 1)] .nil))),
  ((.cons (bxo 0 0 0 4 3 1) .nil), (.agg (qd [(12, 1)] .nil))),
  ((.cons (bxo 3 0 1 4 3 2) .nil), (.agg (qd [(3, 1)] .nil))),
  ((.cons (bxo 0 0 2 4 3 3) .nil), (.agg (qd [(12, 1)] .nil))),
  ((.cons (bxo 2 0 0 4 6 2) .nil), (.agg (qd [(24, 1)] .nil)))]
theorem stranVo27 : ranAll Tryz.prog stov2 44 stVo27 = true := by decide +kernel
noncomputable def stVo28 : List (AV × AV) := [
  ((.cons (bxo 2 0 4 4 6 6) .nil), (.agg (qd [(24, 1)] .nil))),
  ((.cons (bxo 0 0 6 6 9 9) .nil), (.agg (qd [(162, 1)] .nil))),
  ((.cons (bxo 9 0 6 15 9 9) .nil), (.agg (qd [(162, 1)] .nil))),
  ((.cons (bxo 6 6 6 9 9 12) .nil), (.agg (qd [(54, 1)] .nil))),
  ((.cons (bxo 0 0 2 2 3 3) .nil), (.agg (qd [(6, 1)] .nil))),
  ((.cons (bxo 3 0 2 5 3 3) .nil), (.agg (qd [(6, 1)] .nil))),
  ((.cons (bxo 2 2 2 3 3 4) .nil), (.agg (qd [(2, 1)] .nil))),
  ((.cons (bxo 2 0 0 10 6 2) .nil), (.agg (qd [(96, 1)] .nil))),
  ((.cons (bxo 2 0 4 10 6 6) .nil), (.agg (qd [(96, 1)] .nil))),
  ((.cons (bxo 2 0 2 10 2 4) .nil), (.agg (qd [(32, 1)] .nil)))]
theorem stranVo28 : ranAll Tryz.prog stov2 44 stVo28 = true := by decide +kernel
noncomputable def stVo29 : List (AV × AV) := [
  ((.cons (bxo 2 4 2 10 6 4) .nil), (.agg (qd [(32, 1)] .nil))),
  ((.cons (bxo 8 2 2 10 4 4) .nil), (.agg (qd [(8, 1)] .nil))),
  ((.cons (bxo 0 0 0 5 1 1) .nil), (.agg (qd [(5, 1)] .nil))),
  ((.cons (bxo 0 2 0 5 3 1) .nil), (.agg (qd [(5, 1)] .nil))),
  ((.cons (bxo 4 0 1 5 1 2) .nil), (.agg (qd [(1, 1)] .nil))),
  ((.cons (bxo 0 0 2 2 1 3) .nil), (.agg (qd [(2, 1)] .nil))),
  ((.cons (bxo 3 0 2 5 1 3) .nil), (.agg (qd [(2, 1)] .nil))),
  ((.cons (bxo 0 0 0 8 6 2) .nil), (.agg (qd [(96, 1)] .nil))),
  ((.cons (bxo 6 0 2 8 6 4) .nil), (.agg (qd [(24, 1)] .nil))),
  ((.cons (bxo 0 0 4 8 6 6) .nil), (.agg (qd [(96, 1)] .nil)))]
theorem stranVo29 : ranAll Tryz.prog stov2 44 stVo29 = true := by decide +kernel
noncomputable def stVo30 : List (AV × AV) := [
  ((.cons (bxo 12 2 0 14 4 2) .nil), (.agg (qd [(8, 1)] .nil))),
  ((.cons (bxo 0 0 0 14 2 2) .nil), (.agg (qd [(56, 1)] .nil))),
  ((.cons (bxo 0 4 0 14 6 2) .nil), (.agg (qd [(56, 1)] .nil))),
  ((.cons (bxo 10 2 (-2) 12 4 4) .nil), (.agg (qd [(24, 1)] .nil))),
  ((.cons (bxo 3 0 0 9 9 3) .nil), (.agg (qd [(162, 1)] .nil))),
  ((.cons (bxo 3 0 6 9 9 9) .nil), (.agg (qd [(162, 1)] .nil))),
  ((.cons (bxo 3 0 3 9 3 6) .nil), (.agg (qd [(54, 1)] .nil))),
  ((.cons (bxo 3 6 3 9 9 6) .nil), (.agg (qd [(54, 1)] .nil))),
  ((.cons (bxo 0 0 10 2 2 12) .nil), (.agg (qd [(8, 1)] .nil))),
  ((.cons (bxo 1 0 0 2 3 1) .nil), (.agg (qd [(3, 1)] .nil)))]
theorem stranVo30 : ranAll Tryz.prog stov2 44 stVo30 = true := by decide +kernel
noncomputable def stVo31 : List (AV × AV) := [
  ((.cons (bxo 1 0 2 2 3 3) .nil), (.agg (qd [(3, 1)] .nil))),
  ((.cons (bxo 0 0 20 4 4 24) .nil), (.agg (qd [(64, 1)] .nil))),
  ((.cons (bxo 0 0 0 12 9 3) .nil), (.agg (qd [(324, 1)] .nil))),
  ((.cons (bxo 9 0 3 12 9 6) .nil), (.agg (qd [(81, 1)] .nil))),
  ((.cons (bxo 0 0 6 12 9 9) .nil), (.agg (qd [(324, 1)] .nil))),
  ((.cons (bxo 4 0 0 20 12 4) .nil), (.agg (qd [(768, 1)] .nil))),
  ((.cons (bxo 4 0 8 20 12 12) .nil), (.agg (qd [(768, 1)] .nil))),
  ((.cons (bxo 4 0 4 20 4 8) .nil), (.agg (qd [(256, 1)] .nil))),
  ((.cons (bxo 4 8 4 20 12 8) .nil), (.agg (qd [(256, 1)] .nil))),
  ((.cons (bxo 16 4 4 20 8 8) .nil), (.agg (qd [(64, 1)] .nil)))]
theorem stranVo31 : ranAll Tryz.prog stov2 44 stVo31 = true := by decide +kernel
end Go.Sy
