/- Runs of dowel/cell.rings. -/
import Derived.Test.YtemoafmennfhhaaGreatDoorStMMo0
namespace Go.Sy
open Go.RowKit Go.Proofs
set_option linter.unusedVariables false
set_option maxRecDepth 1000000
set_option maxHeartbeats 0
noncomputable def stRi0 : List (AV × AV):=[
  ((.cons (bxI 0 0 0 1 1 1) .nil),(bxR 0 0 0 1 1 1)),
  ((.cons (bxI 0 0 1 1 1 2) .nil),(bxR 0 0 1 1 1 2)),
  ((.cons (bxI 0 0 2 1 1 3) .nil),(bxR 0 0 2 1 1 3)),
  ((.cons (bxI 0 0 3 1 1 4) .nil),(bxR 0 0 3 1 1 4)),
  ((.cons (bxI 0 0 4 1 1 5) .nil),(bxR 0 0 4 1 1 5)),
  ((.cons (bxI 0 0 5 1 1 6) .nil),(bxR 0 0 5 1 1 6))]
theorem stranRi0 : ranAll Tryz.prog ov0 318 stRi0 = true:=by decide +kernel
noncomputable def stRi1 : List (AV × AV):=[
  ((.cons (bxI 0 0 0 2 2 2) .nil),(bxR 0 0 0 2 2 2)),
  ((.cons (bxI 0 0 2 2 2 4) .nil),(bxR 0 0 2 2 2 4)),
  ((.cons (bxI 0 0 4 2 2 6) .nil),(bxR 0 0 4 2 2 6)),
  ((.cons (bxI 0 0 6 2 2 8) .nil),(bxR 0 0 6 2 2 8)),
  ((.cons (bxI 0 0 8 2 2 10) .nil),(bxR 0 0 8 2 2 10)),
  ((.cons (bxI 0 0 10 2 2 12) .nil),(bxR 0 0 10 2 2 12))]
theorem stranRi1 : ranAll Tryz.prog ov0 318 stRi1 = true:=by decide +kernel
noncomputable def stRi2 : List (AV × AV):=[
  ((.cons (bxI 0 0 0 3 3 3) .nil),(bxR 0 0 0 3 3 3)),
  ((.cons (bxI 0 0 3 3 3 6) .nil),(bxR 0 0 3 3 3 6)),
  ((.cons (bxI 0 0 6 3 3 9) .nil),(bxR 0 0 6 3 3 9)),
  ((.cons (bxI 0 0 9 3 3 12) .nil),(bxR 0 0 9 3 3 12)),
  ((.cons (bxI 0 0 12 3 3 15) .nil),(bxR 0 0 12 3 3 15)),
  ((.cons (bxI 0 0 15 3 3 18) .nil),(bxR 0 0 15 3 3 18))]
theorem stranRi2 : ranAll Tryz.prog ov0 318 stRi2 = true:=by decide +kernel
noncomputable def stRi3 : List (AV × AV):=[
  ((.cons (bxI 0 0 0 4 4 4) .nil),(bxR 0 0 0 4 4 4)),
  ((.cons (bxI 0 0 4 4 4 8) .nil),(bxR 0 0 4 4 4 8)),
  ((.cons (bxI 0 0 8 4 4 12) .nil),(bxR 0 0 8 4 4 12)),
  ((.cons (bxI 0 0 12 4 4 16) .nil),(bxR 0 0 12 4 4 16)),
  ((.cons (bxI 0 0 16 4 4 20) .nil),(bxR 0 0 16 4 4 20)),
  ((.cons (bxI 0 0 20 4 4 24) .nil),(bxR 0 0 20 4 4 24))]
theorem stranRi3 : ranAll Tryz.prog ov0 318 stRi3 = true:=by decide +kernel
noncomputable def stRi4 : List (AV × AV):=[
  ((.cons (bxI 0 1 0 1 2 1) .nil),(bxR 0 1 0 1 2 1)),
  ((.cons (bxI 2 1 0 3 2 1) .nil),(bxR 2 1 0 3 2 1)),
  ((.cons (bxI 0 0 0 3 1 1) .nil),(bxR 0 0 0 3 1 1)),
  ((.cons (bxI 0 2 0 3 3 1) .nil),(bxR 0 2 0 3 3 1)),
  ((.cons (bxI 1 1 (-1) 2 2 2) .nil),(bxR 1 1 (-1) 2 2 2)),
  ((.cons (bxI 4 1 0 5 2 1) .nil),(bxR 4 1 0 5 2 1))]
theorem stranRi4 : ranAll Tryz.prog ov0 318 stRi4 = true:=by decide +kernel
noncomputable def stRi5 : List (AV × AV):=[
  ((.cons (bxI 0 0 0 5 1 1) .nil),(bxR 0 0 0 5 1 1)),
  ((.cons (bxI 0 2 0 5 3 1) .nil),(bxR 0 2 0 5 3 1)),
  ((.cons (bxI 3 1 (-1) 4 2 2) .nil),(bxR 3 1 (-1) 4 2 2)),
  ((.cons (bxI 6 1 0 7 2 1) .nil),(bxR 6 1 0 7 2 1)),
  ((.cons (bxI 0 0 0 7 1 1) .nil),(bxR 0 0 0 7 1 1)),
  ((.cons (bxI 0 2 0 7 3 1) .nil),(bxR 0 2 0 7 3 1))]
theorem stranRi5 : ranAll Tryz.prog ov0 318 stRi5 = true:=by decide +kernel
noncomputable def stRi6 : List (AV × AV):=[
  ((.cons (bxI 5 1 (-1) 6 2 2) .nil),(bxR 5 1 (-1) 6 2 2))]
theorem stranRi6 : ranAll Tryz.prog ov0 318 stRi6 = true:=by decide +kernel
noncomputable def stRi7 : List (AV × AV):=[
  ((.cons (bxI 0 2 0 2 4 2) .nil),(bxR 0 2 0 2 4 2)),
  ((.cons (bxI 4 2 0 6 4 2) .nil),(bxR 4 2 0 6 4 2)),
  ((.cons (bxI 0 0 0 6 2 2) .nil),(bxR 0 0 0 6 2 2)),
  ((.cons (bxI 0 4 0 6 6 2) .nil),(bxR 0 4 0 6 6 2)),
  ((.cons (bxI 2 2 (-2) 4 4 4) .nil),(bxR 2 2 (-2) 4 4 4)),
  ((.cons (bxI 8 2 0 10 4 2) .nil),(bxR 8 2 0 10 4 2))]
theorem stranRi7 : ranAll Tryz.prog ov0 318 stRi7 = true:=by decide +kernel
noncomputable def stRi8 : List (AV × AV):=[
  ((.cons (bxI 0 0 0 10 2 2) .nil),(bxR 0 0 0 10 2 2)),
  ((.cons (bxI 0 4 0 10 6 2) .nil),(bxR 0 4 0 10 6 2)),
  ((.cons (bxI 6 2 (-2) 8 4 4) .nil),(bxR 6 2 (-2) 8 4 4)),
  ((.cons (bxI 12 2 0 14 4 2) .nil),(bxR 12 2 0 14 4 2)),
  ((.cons (bxI 0 0 0 14 2 2) .nil),(bxR 0 0 0 14 2 2)),
  ((.cons (bxI 0 4 0 14 6 2) .nil),(bxR 0 4 0 14 6 2))]
theorem stranRi8 : ranAll Tryz.prog ov0 318 stRi8 = true:=by decide +kernel
noncomputable def stRi9 : List (AV × AV):=[
  ((.cons (bxI 10 2 (-2) 12 4 4) .nil),(bxR 10 2 (-2) 12 4 4))]
theorem stranRi9 : ranAll Tryz.prog ov0 318 stRi9 = true:=by decide +kernel
noncomputable def stRi10 : List (AV × AV):=[
  ((.cons (bxI 0 3 0 3 6 3) .nil),(bxR 0 3 0 3 6 3)),
  ((.cons (bxI 6 3 0 9 6 3) .nil),(bxR 6 3 0 9 6 3)),
  ((.cons (bxI 0 0 0 9 3 3) .nil),(bxR 0 0 0 9 3 3)),
  ((.cons (bxI 0 6 0 9 9 3) .nil),(bxR 0 6 0 9 9 3)),
  ((.cons (bxI 3 3 (-3) 6 6 6) .nil),(bxR 3 3 (-3) 6 6 6)),
  ((.cons (bxI 12 3 0 15 6 3) .nil),(bxR 12 3 0 15 6 3))]
theorem stranRi10 : ranAll Tryz.prog ov0 318 stRi10 = true:=by decide +kernel
noncomputable def stRi11 : List (AV × AV):=[
  ((.cons (bxI 0 0 0 15 3 3) .nil),(bxR 0 0 0 15 3 3)),
  ((.cons (bxI 0 6 0 15 9 3) .nil),(bxR 0 6 0 15 9 3)),
  ((.cons (bxI 9 3 (-3) 12 6 6) .nil),(bxR 9 3 (-3) 12 6 6)),
  ((.cons (bxI 18 3 0 21 6 3) .nil),(bxR 18 3 0 21 6 3)),
  ((.cons (bxI 0 0 0 21 3 3) .nil),(bxR 0 0 0 21 3 3)),
  ((.cons (bxI 0 6 0 21 9 3) .nil),(bxR 0 6 0 21 9 3))]
theorem stranRi11 : ranAll Tryz.prog ov0 318 stRi11 = true:=by decide +kernel
noncomputable def stRi12 : List (AV × AV):=[
  ((.cons (bxI 15 3 (-3) 18 6 6) .nil),(bxR 15 3 (-3) 18 6 6))]
theorem stranRi12 : ranAll Tryz.prog ov0 318 stRi12 = true:=by decide +kernel
noncomputable def stRi13 : List (AV × AV):=[
  ((.cons (bxI 0 4 0 4 8 4) .nil),(bxR 0 4 0 4 8 4)),
  ((.cons (bxI 8 4 0 12 8 4) .nil),(bxR 8 4 0 12 8 4)),
  ((.cons (bxI 0 0 0 12 4 4) .nil),(bxR 0 0 0 12 4 4)),
  ((.cons (bxI 0 8 0 12 12 4) .nil),(bxR 0 8 0 12 12 4)),
  ((.cons (bxI 4 4 (-4) 8 8 8) .nil),(bxR 4 4 (-4) 8 8 8)),
  ((.cons (bxI 16 4 0 20 8 4) .nil),(bxR 16 4 0 20 8 4))]
theorem stranRi13 : ranAll Tryz.prog ov0 318 stRi13 = true:=by decide +kernel
noncomputable def stRi14 : List (AV × AV):=[
  ((.cons (bxI 0 0 0 20 4 4) .nil),(bxR 0 0 0 20 4 4)),
  ((.cons (bxI 0 8 0 20 12 4) .nil),(bxR 0 8 0 20 12 4)),
  ((.cons (bxI 12 4 (-4) 16 8 8) .nil),(bxR 12 4 (-4) 16 8 8)),
  ((.cons (bxI 24 4 0 28 8 4) .nil),(bxR 24 4 0 28 8 4)),
  ((.cons (bxI 0 0 0 28 4 4) .nil),(bxR 0 0 0 28 4 4)),
  ((.cons (bxI 0 8 0 28 12 4) .nil),(bxR 0 8 0 28 12 4))]
theorem stranRi14 : ranAll Tryz.prog ov0 318 stRi14 = true:=by decide +kernel
noncomputable def stRi15 : List (AV × AV):=[
  ((.cons (bxI 20 4 (-4) 24 8 8) .nil),(bxR 20 4 (-4) 24 8 8))]
theorem stranRi15 : ranAll Tryz.prog ov0 318 stRi15 = true:=by decide +kernel
end Go.Sy
