/- Runs of dowel/cell.rings. -/
import Derived.Test.YtemoafmennfhhaaGreatDoorStMMo0
namespace Go.Sy
open Go.RowKit Go.Proofs
set_option linter.unusedVariables false
set_option maxRecDepth 1000000
set_option maxHeartbeats 0
noncomputable def stRi32 : List (AV × AV):=[
  ((.cons (bxI 0 0 0 1 5 1) .nil),(bxR 0 0 0 1 5 1)),
  ((.cons (bxI 6 0 0 7 5 1) .nil),(bxR 6 0 0 7 5 1)),
  ((.cons (bxI 1 0 0 6 1 1) .nil),(bxR 1 0 0 6 1 1)),
  ((.cons (bxI 1 4 0 6 5 1) .nil),(bxR 1 4 0 6 5 1)),
  ((.cons (bxI 4 2 (-2) 5 3 3) .nil),(bxR 4 2 (-2) 5 3 3)),
  ((.cons (bxI 10 2 (-2) 11 3 3) .nil),(bxR 10 2 (-2) 11 3 3))]
theorem stranRi32 : ranAll Tryz.prog ov0 318 stRi32 = true:=by decide +kernel
noncomputable def stRi33 : List (AV × AV):=[
  ((.cons (bxI 5 2 (-2) 10 3 (-1)) .nil),(bxR 5 2 (-2) 10 3 (-1))),
  ((.cons (bxI 5 2 2 10 3 3) .nil),(bxR 5 2 2 10 3 3)),
  ((.cons (bxI 8 0 0 9 5 1) .nil),(bxR 8 0 0 9 5 1)),
  ((.cons (bxI 14 0 0 15 5 1) .nil),(bxR 14 0 0 15 5 1)),
  ((.cons (bxI 9 0 0 14 1 1) .nil),(bxR 9 0 0 14 1 1)),
  ((.cons (bxI 9 4 0 14 5 1) .nil),(bxR 9 4 0 14 5 1))]
theorem stranRi33 : ranAll Tryz.prog ov0 318 stRi33 = true:=by decide +kernel
noncomputable def stRi34 : List (AV × AV):=[
  ((.cons (bxI 12 2 (-2) 13 3 3) .nil),(bxR 12 2 (-2) 13 3 3)),
  ((.cons (bxI 18 2 (-2) 19 3 3) .nil),(bxR 18 2 (-2) 19 3 3)),
  ((.cons (bxI 13 2 (-2) 18 3 (-1)) .nil),(bxR 13 2 (-2) 18 3 (-1))),
  ((.cons (bxI 13 2 2 18 3 3) .nil),(bxR 13 2 2 18 3 3))]
theorem stranRi34 : ranAll Tryz.prog ov0 318 stRi34 = true:=by decide +kernel
noncomputable def stRi35 : List (AV × AV):=[
  ((.cons (bxI 0 0 0 2 10 2) .nil),(bxR 0 0 0 2 10 2)),
  ((.cons (bxI 12 0 0 14 10 2) .nil),(bxR 12 0 0 14 10 2)),
  ((.cons (bxI 2 0 0 12 2 2) .nil),(bxR 2 0 0 12 2 2)),
  ((.cons (bxI 2 8 0 12 10 2) .nil),(bxR 2 8 0 12 10 2)),
  ((.cons (bxI 8 4 (-4) 10 6 6) .nil),(bxR 8 4 (-4) 10 6 6)),
  ((.cons (bxI 20 4 (-4) 22 6 6) .nil),(bxR 20 4 (-4) 22 6 6))]
theorem stranRi35 : ranAll Tryz.prog ov0 318 stRi35 = true:=by decide +kernel
noncomputable def stRi36 : List (AV × AV):=[
  ((.cons (bxI 10 4 (-4) 20 6 (-2)) .nil),(bxR 10 4 (-4) 20 6 (-2))),
  ((.cons (bxI 10 4 4 20 6 6) .nil),(bxR 10 4 4 20 6 6)),
  ((.cons (bxI 16 0 0 18 10 2) .nil),(bxR 16 0 0 18 10 2)),
  ((.cons (bxI 28 0 0 30 10 2) .nil),(bxR 28 0 0 30 10 2)),
  ((.cons (bxI 18 0 0 28 2 2) .nil),(bxR 18 0 0 28 2 2)),
  ((.cons (bxI 18 8 0 28 10 2) .nil),(bxR 18 8 0 28 10 2))]
theorem stranRi36 : ranAll Tryz.prog ov0 318 stRi36 = true:=by decide +kernel
noncomputable def stRi37 : List (AV × AV):=[
  ((.cons (bxI 24 4 (-4) 26 6 6) .nil),(bxR 24 4 (-4) 26 6 6)),
  ((.cons (bxI 36 4 (-4) 38 6 6) .nil),(bxR 36 4 (-4) 38 6 6)),
  ((.cons (bxI 26 4 (-4) 36 6 (-2)) .nil),(bxR 26 4 (-4) 36 6 (-2))),
  ((.cons (bxI 26 4 4 36 6 6) .nil),(bxR 26 4 4 36 6 6))]
theorem stranRi37 : ranAll Tryz.prog ov0 318 stRi37 = true:=by decide +kernel
noncomputable def stRi38 : List (AV × AV):=[
  ((.cons (bxI 0 0 0 3 15 3) .nil),(bxR 0 0 0 3 15 3)),
  ((.cons (bxI 18 0 0 21 15 3) .nil),(bxR 18 0 0 21 15 3)),
  ((.cons (bxI 3 0 0 18 3 3) .nil),(bxR 3 0 0 18 3 3)),
  ((.cons (bxI 3 12 0 18 15 3) .nil),(bxR 3 12 0 18 15 3)),
  ((.cons (bxI 12 6 (-6) 15 9 9) .nil),(bxR 12 6 (-6) 15 9 9)),
  ((.cons (bxI 30 6 (-6) 33 9 9) .nil),(bxR 30 6 (-6) 33 9 9))]
theorem stranRi38 : ranAll Tryz.prog ov0 318 stRi38 = true:=by decide +kernel
noncomputable def stRi39 : List (AV × AV):=[
  ((.cons (bxI 15 6 (-6) 30 9 (-3)) .nil),(bxR 15 6 (-6) 30 9 (-3))),
  ((.cons (bxI 15 6 6 30 9 9) .nil),(bxR 15 6 6 30 9 9)),
  ((.cons (bxI 24 0 0 27 15 3) .nil),(bxR 24 0 0 27 15 3)),
  ((.cons (bxI 42 0 0 45 15 3) .nil),(bxR 42 0 0 45 15 3)),
  ((.cons (bxI 27 0 0 42 3 3) .nil),(bxR 27 0 0 42 3 3)),
  ((.cons (bxI 27 12 0 42 15 3) .nil),(bxR 27 12 0 42 15 3))]
theorem stranRi39 : ranAll Tryz.prog ov0 318 stRi39 = true:=by decide +kernel
noncomputable def stRi40 : List (AV × AV):=[
  ((.cons (bxI 36 6 (-6) 39 9 9) .nil),(bxR 36 6 (-6) 39 9 9)),
  ((.cons (bxI 54 6 (-6) 57 9 9) .nil),(bxR 54 6 (-6) 57 9 9)),
  ((.cons (bxI 39 6 (-6) 54 9 (-3)) .nil),(bxR 39 6 (-6) 54 9 (-3))),
  ((.cons (bxI 39 6 6 54 9 9) .nil),(bxR 39 6 6 54 9 9))]
theorem stranRi40 : ranAll Tryz.prog ov0 318 stRi40 = true:=by decide +kernel
noncomputable def stRi41 : List (AV × AV):=[
  ((.cons (bxI 0 0 0 4 20 4) .nil),(bxR 0 0 0 4 20 4)),
  ((.cons (bxI 24 0 0 28 20 4) .nil),(bxR 24 0 0 28 20 4)),
  ((.cons (bxI 4 0 0 24 4 4) .nil),(bxR 4 0 0 24 4 4)),
  ((.cons (bxI 4 16 0 24 20 4) .nil),(bxR 4 16 0 24 20 4)),
  ((.cons (bxI 16 8 (-8) 20 12 12) .nil),(bxR 16 8 (-8) 20 12 12)),
  ((.cons (bxI 40 8 (-8) 44 12 12) .nil),(bxR 40 8 (-8) 44 12 12))]
theorem stranRi41 : ranAll Tryz.prog ov0 318 stRi41 = true:=by decide +kernel
noncomputable def stRi42 : List (AV × AV):=[
  ((.cons (bxI 20 8 (-8) 40 12 (-4)) .nil),(bxR 20 8 (-8) 40 12 (-4))),
  ((.cons (bxI 20 8 8 40 12 12) .nil),(bxR 20 8 8 40 12 12)),
  ((.cons (bxI 32 0 0 36 20 4) .nil),(bxR 32 0 0 36 20 4)),
  ((.cons (bxI 56 0 0 60 20 4) .nil),(bxR 56 0 0 60 20 4)),
  ((.cons (bxI 36 0 0 56 4 4) .nil),(bxR 36 0 0 56 4 4)),
  ((.cons (bxI 36 16 0 56 20 4) .nil),(bxR 36 16 0 56 20 4))]
theorem stranRi42 : ranAll Tryz.prog ov0 318 stRi42 = true:=by decide +kernel
noncomputable def stRi43 : List (AV × AV):=[
  ((.cons (bxI 48 8 (-8) 52 12 12) .nil),(bxR 48 8 (-8) 52 12 12)),
  ((.cons (bxI 72 8 (-8) 76 12 12) .nil),(bxR 72 8 (-8) 76 12 12)),
  ((.cons (bxI 52 8 (-8) 72 12 (-4)) .nil),(bxR 52 8 (-8) 72 12 (-4))),
  ((.cons (bxI 52 8 8 72 12 12) .nil),(bxR 52 8 8 72 12 12))]
theorem stranRi43 : ranAll Tryz.prog ov0 318 stRi43 = true:=by decide +kernel
noncomputable def stRi44 : List (AV × AV):=[
  ((.cons (bxI 0 0 0 3 3 1) .nil),(bxR 0 0 0 3 3 1)),
  ((.cons (bxI 2 0 1 3 3 2) .nil),(bxR 2 0 1 3 3 2)),
  ((.cons (bxI 1 0 1 2 1 2) .nil),(bxR 1 0 1 2 1 2)),
  ((.cons (bxI 1 2 1 2 3 2) .nil),(bxR 1 2 1 2 3 2)),
  ((.cons (bxI 1 1 1 2 2 2) .nil),(bxR 1 1 1 2 2 2)),
  ((.cons (bxI 0 0 2 3 3 3) .nil),(bxR 0 0 2 3 3 3))]
theorem stranRi44 : ranAll Tryz.prog ov0 318 stRi44 = true:=by decide +kernel
noncomputable def stRi45 : List (AV × AV):=[
  ((.cons (bxI 0 0 0 4 3 1) .nil),(bxR 0 0 0 4 3 1)),
  ((.cons (bxI 3 0 1 4 3 2) .nil),(bxR 3 0 1 4 3 2)),
  ((.cons (bxI 1 0 1 3 1 2) .nil),(bxR 1 0 1 3 1 2)),
  ((.cons (bxI 1 2 1 3 3 2) .nil),(bxR 1 2 1 3 3 2)),
  ((.cons (bxI 2 1 1 3 2 2) .nil),(bxR 2 1 1 3 2 2)),
  ((.cons (bxI 0 0 2 4 3 3) .nil),(bxR 0 0 2 4 3 3))]
theorem stranRi45 : ranAll Tryz.prog ov0 318 stRi45 = true:=by decide +kernel
noncomputable def stRi46 : List (AV × AV):=[
  ((.cons (bxI 3 1 1 4 2 2) .nil),(bxR 3 1 1 4 2 2)),
  ((.cons (bxI 0 0 2 5 3 3) .nil),(bxR 0 0 2 5 3 3))]
theorem stranRi46 : ranAll Tryz.prog ov0 318 stRi46 = true:=by decide +kernel
noncomputable def stRi47 : List (AV × AV):=[
  ((.cons (bxI 0 0 0 6 6 2) .nil),(bxR 0 0 0 6 6 2)),
  ((.cons (bxI 4 0 2 6 6 4) .nil),(bxR 4 0 2 6 6 4)),
  ((.cons (bxI 2 0 2 4 2 4) .nil),(bxR 2 0 2 4 2 4)),
  ((.cons (bxI 2 4 2 4 6 4) .nil),(bxR 2 4 2 4 6 4)),
  ((.cons (bxI 2 2 2 4 4 4) .nil),(bxR 2 2 2 4 4 4)),
  ((.cons (bxI 0 0 4 6 6 6) .nil),(bxR 0 0 4 6 6 6))]
theorem stranRi47 : ranAll Tryz.prog ov0 318 stRi47 = true:=by decide +kernel
end Go.Sy
