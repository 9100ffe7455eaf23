/- Runs of dowel/cell.rings. -/
import Derived.Test.YtialjngnlekplaaGreatDoorStMMo0
namespace Go.Sy
open Go.RowKit Go.Proofs
set_option linter.unusedVariables false
set_option maxRecDepth 1000000
set_option maxHeartbeats 0
noncomputable def stRi0 : List (AV × AV) := [
  ((.cons (bxI 0 0 0 2 10 2) .nil), (bxR 0 0 0 2 10 2)),
  ((.cons (bxI 12 0 0 14 10 2) .nil), (bxR 12 0 0 14 10 2)),
  ((.cons (bxI 2 0 0 12 2 2) .nil), (bxR 2 0 0 12 2 2)),
  ((.cons (bxI 2 8 0 12 10 2) .nil), (bxR 2 8 0 12 10 2)),
  ((.cons (bxI 8 4 (-4) 10 6 6) .nil), (bxR 8 4 (-4) 10 6 6))]
theorem stranRi0 : ranAll Tryz.prog ov0 217 stRi0 = true := by decide +kernel
noncomputable def stRi1 : List (AV × AV) := [
  ((.cons (bxI 20 4 (-4) 22 6 6) .nil), (bxR 20 4 (-4) 22 6 6)),
  ((.cons (bxI 10 4 (-4) 20 6 (-2)) .nil), (bxR 10 4 (-4) 20 6 (-2))),
  ((.cons (bxI 10 4 4 20 6 6) .nil), (bxR 10 4 4 20 6 6)),
  ((.cons (bxI 0 0 0 20 4 4) .nil), (bxR 0 0 0 20 4 4)),
  ((.cons (bxI 0 0 4 4 4 8) .nil), (bxR 0 0 4 4 4 8))]
theorem stranRi1 : ranAll Tryz.prog ov0 217 stRi1 = true := by decide +kernel
noncomputable def stRi2 : List (AV × AV) := [
  ((.cons (bxI 16 0 4 20 4 8) .nil), (bxR 16 0 4 20 4 8)),
  ((.cons (bxI 0 0 8 8 4 12) .nil), (bxR 0 0 8 8 4 12)),
  ((.cons (bxI 12 0 8 20 4 12) .nil), (bxR 12 0 8 20 4 12)),
  ((.cons (bxI 4 0 4 16 4 8) .nil), (bxR 4 0 4 16 4 8)),
  ((.cons (bxI 8 0 8 12 4 16) .nil), (bxR 8 0 8 12 4 16))]
theorem stranRi2 : ranAll Tryz.prog ov0 217 stRi2 = true := by decide +kernel
noncomputable def stRi3 : List (AV × AV) := [
  ((.cons (bxI 0 0 0 15 9 3) .nil), (bxR 0 0 0 15 9 3)),
  ((.cons (bxI 0 0 3 3 9 6) .nil), (bxR 0 0 3 3 9 6)),
  ((.cons (bxI 12 0 3 15 9 6) .nil), (bxR 12 0 3 15 9 6)),
  ((.cons (bxI 3 0 3 12 3 6) .nil), (bxR 3 0 3 12 3 6)),
  ((.cons (bxI 3 6 3 12 9 6) .nil), (bxR 3 6 3 12 9 6))]
theorem stranRi3 : ranAll Tryz.prog ov0 217 stRi3 = true := by decide +kernel
noncomputable def stRi4 : List (AV × AV) := [
  ((.cons (bxI 3 3 3 6 6 6) .nil), (bxR 3 3 3 6 6 6)),
  ((.cons (bxI 6 3 3 9 6 6) .nil), (bxR 6 3 3 9 6 6)),
  ((.cons (bxI 9 3 3 12 6 6) .nil), (bxR 9 3 3 12 6 6)),
  ((.cons (bxI 0 0 6 15 9 9) .nil), (bxR 0 0 6 15 9 9)),
  ((.cons (bxI 0 0 0 4 4 4) .nil), (bxR 0 0 0 4 4 4))]
theorem stranRi4 : ranAll Tryz.prog ov0 217 stRi4 = true := by decide +kernel
noncomputable def stRi5 : List (AV × AV) := [
  ((.cons (bxI 0 0 8 4 4 12) .nil), (bxR 0 0 8 4 4 12)),
  ((.cons (bxI 0 0 12 4 4 16) .nil), (bxR 0 0 12 4 4 16)),
  ((.cons (bxI 0 0 0 1 3 3) .nil), (bxR 0 0 0 1 3 3)),
  ((.cons (bxI 1 0 0 3 3 1) .nil), (bxR 1 0 0 3 3 1)),
  ((.cons (bxI 1 0 2 3 3 3) .nil), (bxR 1 0 2 3 3 3))]
theorem stranRi5 : ranAll Tryz.prog ov0 217 stRi5 = true := by decide +kernel
noncomputable def stRi6 : List (AV × AV) := [
  ((.cons (bxI 1 0 1 3 1 2) .nil), (bxR 1 0 1 3 1 2)),
  ((.cons (bxI 1 2 1 3 3 2) .nil), (bxR 1 2 1 3 3 2)),
  ((.cons (bxI 1 1 1 2 2 2) .nil), (bxR 1 1 1 2 2 2)),
  ((.cons (bxI 2 1 1 3 2 2) .nil), (bxR 2 1 1 3 2 2)),
  ((.cons (bxI 0 0 0 16 12 4) .nil), (bxR 0 0 0 16 12 4))]
theorem stranRi6 : ranAll Tryz.prog ov0 217 stRi6 = true := by decide +kernel
noncomputable def stRi7 : List (AV × AV) := [
  ((.cons (bxI 0 0 4 4 12 8) .nil), (bxR 0 0 4 4 12 8)),
  ((.cons (bxI 12 0 4 16 12 8) .nil), (bxR 12 0 4 16 12 8)),
  ((.cons (bxI 4 0 4 12 4 8) .nil), (bxR 4 0 4 12 4 8)),
  ((.cons (bxI 4 8 4 12 12 8) .nil), (bxR 4 8 4 12 12 8)),
  ((.cons (bxI 4 4 4 8 8 8) .nil), (bxR 4 4 4 8 8 8))]
theorem stranRi7 : ranAll Tryz.prog ov0 217 stRi7 = true := by decide +kernel
noncomputable def stRi8 : List (AV × AV) := [
  ((.cons (bxI 8 4 4 12 8 8) .nil), (bxR 8 4 4 12 8 8)),
  ((.cons (bxI 0 0 8 16 12 12) .nil), (bxR 0 0 8 16 12 12)),
  ((.cons (bxI 0 3 0 3 6 3) .nil), (bxR 0 3 0 3 6 3)),
  ((.cons (bxI 6 3 0 9 6 3) .nil), (bxR 6 3 0 9 6 3)),
  ((.cons (bxI 12 3 0 15 6 3) .nil), (bxR 12 3 0 15 6 3))]
theorem stranRi8 : ranAll Tryz.prog ov0 217 stRi8 = true := by decide +kernel
noncomputable def stRi9 : List (AV × AV) := [
  ((.cons (bxI 0 0 0 15 3 3) .nil), (bxR 0 0 0 15 3 3)),
  ((.cons (bxI 0 6 0 15 9 3) .nil), (bxR 0 6 0 15 9 3)),
  ((.cons (bxI 3 3 (-3) 6 6 6) .nil), (bxR 3 3 (-3) 6 6 6)),
  ((.cons (bxI 9 3 (-3) 12 6 6) .nil), (bxR 9 3 (-3) 12 6 6)),
  ((.cons (bxI 0 2 0 2 4 2) .nil), (bxR 0 2 0 2 4 2))]
theorem stranRi9 : ranAll Tryz.prog ov0 217 stRi9 = true := by decide +kernel
noncomputable def stRi10 : List (AV × AV) := [
  ((.cons (bxI 4 2 0 6 4 2) .nil), (bxR 4 2 0 6 4 2)),
  ((.cons (bxI 0 0 0 6 2 2) .nil), (bxR 0 0 0 6 2 2)),
  ((.cons (bxI 0 4 0 6 6 2) .nil), (bxR 0 4 0 6 6 2)),
  ((.cons (bxI 2 2 (-2) 4 4 4) .nil), (bxR 2 2 (-2) 4 4 4)),
  ((.cons (bxI 0 0 0 3 15 3) .nil), (bxR 0 0 0 3 15 3))]
theorem stranRi10 : ranAll Tryz.prog ov0 217 stRi10 = true := by decide +kernel
noncomputable def stRi11 : List (AV × AV) := [
  ((.cons (bxI 18 0 0 21 15 3) .nil), (bxR 18 0 0 21 15 3)),
  ((.cons (bxI 3 0 0 18 3 3) .nil), (bxR 3 0 0 18 3 3)),
  ((.cons (bxI 3 12 0 18 15 3) .nil), (bxR 3 12 0 18 15 3)),
  ((.cons (bxI 12 6 (-6) 15 9 9) .nil), (bxR 12 6 (-6) 15 9 9)),
  ((.cons (bxI 30 6 (-6) 33 9 9) .nil), (bxR 30 6 (-6) 33 9 9))]
theorem stranRi11 : ranAll Tryz.prog ov0 217 stRi11 = true := by decide +kernel
noncomputable def stRi12 : List (AV × AV) := [
  ((.cons (bxI 15 6 (-6) 30 9 (-3)) .nil), (bxR 15 6 (-6) 30 9 (-3))),
  ((.cons (bxI 15 6 6 30 9 9) .nil), (bxR 15 6 6 30 9 9)),
  ((.cons (bxI 0 0 0 4 20 4) .nil), (bxR 0 0 0 4 20 4)),
  ((.cons (bxI 24 0 0 28 20 4) .nil), (bxR 24 0 0 28 20 4)),
  ((.cons (bxI 4 0 0 24 4 4) .nil), (bxR 4 0 0 24 4 4))]
theorem stranRi12 : ranAll Tryz.prog ov0 217 stRi12 = true := by decide +kernel
noncomputable def stRi13 : List (AV × AV) := [
  ((.cons (bxI 4 16 0 24 20 4) .nil), (bxR 4 16 0 24 20 4)),
  ((.cons (bxI 16 8 (-8) 20 12 12) .nil), (bxR 16 8 (-8) 20 12 12)),
  ((.cons (bxI 40 8 (-8) 44 12 12) .nil), (bxR 40 8 (-8) 44 12 12)),
  ((.cons (bxI 20 8 (-8) 40 12 (-4)) .nil), (bxR 20 8 (-8) 40 12 (-4))),
  ((.cons (bxI 20 8 8 40 12 12) .nil), (bxR 20 8 8 40 12 12))]
theorem stranRi13 : ranAll Tryz.prog ov0 217 stRi13 = true := by decide +kernel
noncomputable def stRi14 : List (AV × AV) := [
  ((.cons (bxI 0 0 0 3 9 9) .nil), (bxR 0 0 0 3 9 9)),
  ((.cons (bxI 3 0 0 12 9 3) .nil), (bxR 3 0 0 12 9 3)),
  ((.cons (bxI 3 0 6 12 9 9) .nil), (bxR 3 0 6 12 9 9)),
  ((.cons (bxI 0 0 0 10 4 2) .nil), (bxR 0 0 0 10 4 2)),
  ((.cons (bxI 0 0 2 2 4 4) .nil), (bxR 0 0 2 2 4 4))]
theorem stranRi14 : ranAll Tryz.prog ov0 217 stRi14 = true := by decide +kernel
noncomputable def stRi15 : List (AV × AV) := [
  ((.cons (bxI 8 0 2 10 4 4) .nil), (bxR 8 0 2 10 4 4)),
  ((.cons (bxI 0 0 4 4 4 6) .nil), (bxR 0 0 4 4 4 6)),
  ((.cons (bxI 6 0 4 10 4 6) .nil), (bxR 6 0 4 10 4 6)),
  ((.cons (bxI 2 0 2 8 2 4) .nil), (bxR 2 0 2 8 2 4)),
  ((.cons (bxI 4 0 4 6 2 8) .nil), (bxR 4 0 4 6 2 8))]
theorem stranRi15 : ranAll Tryz.prog ov0 217 stRi15 = true := by decide +kernel
end Go.Sy
