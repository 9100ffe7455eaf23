/- Runs of dowel/cell.rings. -/
import Derived.Test.YtemoafmennfhhaaGreatDoorStMMo0
namespace Go.Sy
open Go.RowKit Go.Proofs
set_option linter.unusedVariables false
set_option maxRecDepth 1000000
set_option maxHeartbeats 0
noncomputable def stRi48 : List (AV × AV):=[
  ((.cons (bxI 0 0 0 8 6 2) .nil),(bxR 0 0 0 8 6 2)),
  ((.cons (bxI 6 0 2 8 6 4) .nil),(bxR 6 0 2 8 6 4)),
  ((.cons (bxI 2 0 2 6 2 4) .nil),(bxR 2 0 2 6 2 4)),
  ((.cons (bxI 2 4 2 6 6 4) .nil),(bxR 2 4 2 6 6 4)),
  ((.cons (bxI 4 2 2 6 4 4) .nil),(bxR 4 2 2 6 4 4)),
  ((.cons (bxI 0 0 4 8 6 6) .nil),(bxR 0 0 4 8 6 6))]
theorem stranRi48 : ranAll Tryz.prog ov0 318 stRi48 = true:=by decide +kernel
noncomputable def stRi49 : List (AV × AV):=[
  ((.cons (bxI 6 2 2 8 4 4) .nil),(bxR 6 2 2 8 4 4)),
  ((.cons (bxI 0 0 4 10 6 6) .nil),(bxR 0 0 4 10 6 6))]
theorem stranRi49 : ranAll Tryz.prog ov0 318 stRi49 = true:=by decide +kernel
noncomputable def stRi50 : List (AV × AV):=[
  ((.cons (bxI 0 0 0 9 9 3) .nil),(bxR 0 0 0 9 9 3)),
  ((.cons (bxI 6 0 3 9 9 6) .nil),(bxR 6 0 3 9 9 6)),
  ((.cons (bxI 3 0 3 6 3 6) .nil),(bxR 3 0 3 6 3 6)),
  ((.cons (bxI 3 6 3 6 9 6) .nil),(bxR 3 6 3 6 9 6)),
  ((.cons (bxI 3 3 3 6 6 6) .nil),(bxR 3 3 3 6 6 6)),
  ((.cons (bxI 0 0 6 9 9 9) .nil),(bxR 0 0 6 9 9 9))]
theorem stranRi50 : ranAll Tryz.prog ov0 318 stRi50 = true:=by decide +kernel
noncomputable def stRi51 : List (AV × AV):=[
  ((.cons (bxI 0 0 0 12 9 3) .nil),(bxR 0 0 0 12 9 3)),
  ((.cons (bxI 9 0 3 12 9 6) .nil),(bxR 9 0 3 12 9 6)),
  ((.cons (bxI 3 0 3 9 3 6) .nil),(bxR 3 0 3 9 3 6)),
  ((.cons (bxI 3 6 3 9 9 6) .nil),(bxR 3 6 3 9 9 6)),
  ((.cons (bxI 6 3 3 9 6 6) .nil),(bxR 6 3 3 9 6 6)),
  ((.cons (bxI 0 0 6 12 9 9) .nil),(bxR 0 0 6 12 9 9))]
theorem stranRi51 : ranAll Tryz.prog ov0 318 stRi51 = true:=by decide +kernel
noncomputable def stRi52 : List (AV × AV):=[
  ((.cons (bxI 9 3 3 12 6 6) .nil),(bxR 9 3 3 12 6 6)),
  ((.cons (bxI 0 0 6 15 9 9) .nil),(bxR 0 0 6 15 9 9))]
theorem stranRi52 : ranAll Tryz.prog ov0 318 stRi52 = true:=by decide +kernel
noncomputable def stRi53 : List (AV × AV):=[
  ((.cons (bxI 0 0 0 12 12 4) .nil),(bxR 0 0 0 12 12 4)),
  ((.cons (bxI 8 0 4 12 12 8) .nil),(bxR 8 0 4 12 12 8)),
  ((.cons (bxI 4 0 4 8 4 8) .nil),(bxR 4 0 4 8 4 8)),
  ((.cons (bxI 4 8 4 8 12 8) .nil),(bxR 4 8 4 8 12 8)),
  ((.cons (bxI 4 4 4 8 8 8) .nil),(bxR 4 4 4 8 8 8)),
  ((.cons (bxI 0 0 8 12 12 12) .nil),(bxR 0 0 8 12 12 12))]
theorem stranRi53 : ranAll Tryz.prog ov0 318 stRi53 = true:=by decide +kernel
noncomputable def stRi54 : List (AV × AV):=[
  ((.cons (bxI 0 0 0 16 12 4) .nil),(bxR 0 0 0 16 12 4)),
  ((.cons (bxI 12 0 4 16 12 8) .nil),(bxR 12 0 4 16 12 8)),
  ((.cons (bxI 4 0 4 12 4 8) .nil),(bxR 4 0 4 12 4 8)),
  ((.cons (bxI 4 8 4 12 12 8) .nil),(bxR 4 8 4 12 12 8)),
  ((.cons (bxI 8 4 4 12 8 8) .nil),(bxR 8 4 4 12 8 8)),
  ((.cons (bxI 0 0 8 16 12 12) .nil),(bxR 0 0 8 16 12 12))]
theorem stranRi54 : ranAll Tryz.prog ov0 318 stRi54 = true:=by decide +kernel
noncomputable def stRi55 : List (AV × AV):=[
  ((.cons (bxI 12 4 4 16 8 8) .nil),(bxR 12 4 4 16 8 8)),
  ((.cons (bxI 0 0 8 20 12 12) .nil),(bxR 0 0 8 20 12 12))]
theorem stranRi55 : ranAll Tryz.prog ov0 318 stRi55 = true:=by decide +kernel
noncomputable def stRi56 : List (AV × AV):=[
  ((.cons (bxI 0 0 0 1 3 3) .nil),(bxR 0 0 0 1 3 3)),
  ((.cons (bxI 1 0 0 2 3 1) .nil),(bxR 1 0 0 2 3 1)),
  ((.cons (bxI 1 0 2 2 3 3) .nil),(bxR 1 0 2 2 3 3)),
  ((.cons (bxI 1 0 0 3 3 1) .nil),(bxR 1 0 0 3 3 1)),
  ((.cons (bxI 1 0 2 3 3 3) .nil),(bxR 1 0 2 3 3 3)),
  ((.cons (bxI 1 0 0 4 3 1) .nil),(bxR 1 0 0 4 3 1))]
theorem stranRi56 : ranAll Tryz.prog ov0 318 stRi56 = true:=by decide +kernel
noncomputable def stRi57 : List (AV × AV):=[
  ((.cons (bxI 1 0 2 4 3 3) .nil),(bxR 1 0 2 4 3 3)),
  ((.cons (bxI 1 0 0 5 3 1) .nil),(bxR 1 0 0 5 3 1)),
  ((.cons (bxI 1 0 2 5 3 3) .nil),(bxR 1 0 2 5 3 3)),
  ((.cons (bxI 1 0 1 5 1 2) .nil),(bxR 1 0 1 5 1 2)),
  ((.cons (bxI 1 2 1 5 3 2) .nil),(bxR 1 2 1 5 3 2)),
  ((.cons (bxI 4 1 1 5 2 2) .nil),(bxR 4 1 1 5 2 2))]
theorem stranRi57 : ranAll Tryz.prog ov0 318 stRi57 = true:=by decide +kernel
noncomputable def stRi58 : List (AV × AV):=[
  ((.cons (bxI 0 0 0 2 6 6) .nil),(bxR 0 0 0 2 6 6)),
  ((.cons (bxI 2 0 0 4 6 2) .nil),(bxR 2 0 0 4 6 2)),
  ((.cons (bxI 2 0 4 4 6 6) .nil),(bxR 2 0 4 4 6 6)),
  ((.cons (bxI 2 0 0 6 6 2) .nil),(bxR 2 0 0 6 6 2)),
  ((.cons (bxI 2 0 4 6 6 6) .nil),(bxR 2 0 4 6 6 6)),
  ((.cons (bxI 2 0 0 8 6 2) .nil),(bxR 2 0 0 8 6 2))]
theorem stranRi58 : ranAll Tryz.prog ov0 318 stRi58 = true:=by decide +kernel
noncomputable def stRi59 : List (AV × AV):=[
  ((.cons (bxI 2 0 4 8 6 6) .nil),(bxR 2 0 4 8 6 6)),
  ((.cons (bxI 2 0 0 10 6 2) .nil),(bxR 2 0 0 10 6 2)),
  ((.cons (bxI 2 0 4 10 6 6) .nil),(bxR 2 0 4 10 6 6)),
  ((.cons (bxI 2 0 2 10 2 4) .nil),(bxR 2 0 2 10 2 4)),
  ((.cons (bxI 2 4 2 10 6 4) .nil),(bxR 2 4 2 10 6 4)),
  ((.cons (bxI 8 2 2 10 4 4) .nil),(bxR 8 2 2 10 4 4))]
theorem stranRi59 : ranAll Tryz.prog ov0 318 stRi59 = true:=by decide +kernel
noncomputable def stRi60 : List (AV × AV):=[
  ((.cons (bxI 0 0 0 3 9 9) .nil),(bxR 0 0 0 3 9 9)),
  ((.cons (bxI 3 0 0 6 9 3) .nil),(bxR 3 0 0 6 9 3)),
  ((.cons (bxI 3 0 6 6 9 9) .nil),(bxR 3 0 6 6 9 9)),
  ((.cons (bxI 3 0 0 9 9 3) .nil),(bxR 3 0 0 9 9 3)),
  ((.cons (bxI 3 0 6 9 9 9) .nil),(bxR 3 0 6 9 9 9)),
  ((.cons (bxI 3 0 0 12 9 3) .nil),(bxR 3 0 0 12 9 3))]
theorem stranRi60 : ranAll Tryz.prog ov0 318 stRi60 = true:=by decide +kernel
noncomputable def stRi61 : List (AV × AV):=[
  ((.cons (bxI 3 0 6 12 9 9) .nil),(bxR 3 0 6 12 9 9)),
  ((.cons (bxI 3 0 0 15 9 3) .nil),(bxR 3 0 0 15 9 3)),
  ((.cons (bxI 3 0 6 15 9 9) .nil),(bxR 3 0 6 15 9 9)),
  ((.cons (bxI 3 0 3 15 3 6) .nil),(bxR 3 0 3 15 3 6)),
  ((.cons (bxI 3 6 3 15 9 6) .nil),(bxR 3 6 3 15 9 6)),
  ((.cons (bxI 12 3 3 15 6 6) .nil),(bxR 12 3 3 15 6 6))]
theorem stranRi61 : ranAll Tryz.prog ov0 318 stRi61 = true:=by decide +kernel
noncomputable def stRi62 : List (AV × AV):=[
  ((.cons (bxI 0 0 0 4 12 12) .nil),(bxR 0 0 0 4 12 12)),
  ((.cons (bxI 4 0 0 8 12 4) .nil),(bxR 4 0 0 8 12 4)),
  ((.cons (bxI 4 0 8 8 12 12) .nil),(bxR 4 0 8 8 12 12)),
  ((.cons (bxI 4 0 0 12 12 4) .nil),(bxR 4 0 0 12 12 4)),
  ((.cons (bxI 4 0 8 12 12 12) .nil),(bxR 4 0 8 12 12 12)),
  ((.cons (bxI 4 0 0 16 12 4) .nil),(bxR 4 0 0 16 12 4))]
theorem stranRi62 : ranAll Tryz.prog ov0 318 stRi62 = true:=by decide +kernel
noncomputable def stRi63 : List (AV × AV):=[
  ((.cons (bxI 4 0 8 16 12 12) .nil),(bxR 4 0 8 16 12 12)),
  ((.cons (bxI 4 0 0 20 12 4) .nil),(bxR 4 0 0 20 12 4)),
  ((.cons (bxI 4 0 8 20 12 12) .nil),(bxR 4 0 8 20 12 12)),
  ((.cons (bxI 4 0 4 20 4 8) .nil),(bxR 4 0 4 20 4 8)),
  ((.cons (bxI 4 8 4 20 12 8) .nil),(bxR 4 8 4 20 12 8)),
  ((.cons (bxI 16 4 4 20 8 8) .nil),(bxR 16 4 4 20 8 8))]
theorem stranRi63 : ranAll Tryz.prog ov0 318 stRi63 = true:=by decide +kernel
end Go.Sy
