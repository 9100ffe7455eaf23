/- Runs of dowel/cell.rings. -/
import Derived.Test.YtemoafmennfhhaaGreatDoorStMMo0
namespace Go.Sy
open Go.RowKit Go.Proofs
set_option linter.unusedVariables false
set_option maxRecDepth 1000000
set_option maxHeartbeats 0
noncomputable def stRi16 : List (AV × AV):=[
  ((.cons (bxI 4 0 1 5 1 2) .nil),(bxR 4 0 1 5 1 2)),
  ((.cons (bxI 0 0 2 2 1 3) .nil),(bxR 0 0 2 2 1 3)),
  ((.cons (bxI 3 0 2 5 1 3) .nil),(bxR 3 0 2 5 1 3)),
  ((.cons (bxI 1 0 1 4 1 2) .nil),(bxR 1 0 1 4 1 2)),
  ((.cons (bxI 2 0 2 3 1 4) .nil),(bxR 2 0 2 3 1 4)),
  ((.cons (bxI 0 0 0 5 2 1) .nil),(bxR 0 0 0 5 2 1))]
theorem stranRi16 : ranAll Tryz.prog ov0 318 stRi16 = true:=by decide +kernel
noncomputable def stRi17 : List (AV × AV):=[
  ((.cons (bxI 0 0 1 1 2 2) .nil),(bxR 0 0 1 1 2 2)),
  ((.cons (bxI 4 0 1 5 2 2) .nil),(bxR 4 0 1 5 2 2)),
  ((.cons (bxI 0 0 2 2 2 3) .nil),(bxR 0 0 2 2 2 3)),
  ((.cons (bxI 3 0 2 5 2 3) .nil),(bxR 3 0 2 5 2 3)),
  ((.cons (bxI 1 1 1 4 2 2) .nil),(bxR 1 1 1 4 2 2)),
  ((.cons (bxI 2 1 2 3 2 4) .nil),(bxR 2 1 2 3 2 4))]
theorem stranRi17 : ranAll Tryz.prog ov0 318 stRi17 = true:=by decide +kernel
noncomputable def stRi18 : List (AV × AV):=[
  ((.cons (bxI 0 0 0 5 3 1) .nil),(bxR 0 0 0 5 3 1)),
  ((.cons (bxI 0 0 1 1 3 2) .nil),(bxR 0 0 1 1 3 2)),
  ((.cons (bxI 4 0 1 5 3 2) .nil),(bxR 4 0 1 5 3 2)),
  ((.cons (bxI 0 0 2 2 3 3) .nil),(bxR 0 0 2 2 3 3)),
  ((.cons (bxI 3 0 2 5 3 3) .nil),(bxR 3 0 2 5 3 3)),
  ((.cons (bxI 1 2 1 4 3 2) .nil),(bxR 1 2 1 4 3 2))]
theorem stranRi18 : ranAll Tryz.prog ov0 318 stRi18 = true:=by decide +kernel
noncomputable def stRi19 : List (AV × AV):=[
  ((.cons (bxI 2 2 2 3 3 4) .nil),(bxR 2 2 2 3 3 4))]
theorem stranRi19 : ranAll Tryz.prog ov0 318 stRi19 = true:=by decide +kernel
noncomputable def stRi20 : List (AV × AV):=[
  ((.cons (bxI 8 0 2 10 2 4) .nil),(bxR 8 0 2 10 2 4)),
  ((.cons (bxI 0 0 4 4 2 6) .nil),(bxR 0 0 4 4 2 6)),
  ((.cons (bxI 6 0 4 10 2 6) .nil),(bxR 6 0 4 10 2 6)),
  ((.cons (bxI 2 0 2 8 2 4) .nil),(bxR 2 0 2 8 2 4)),
  ((.cons (bxI 4 0 4 6 2 8) .nil),(bxR 4 0 4 6 2 8)),
  ((.cons (bxI 0 0 0 10 4 2) .nil),(bxR 0 0 0 10 4 2))]
theorem stranRi20 : ranAll Tryz.prog ov0 318 stRi20 = true:=by decide +kernel
noncomputable def stRi21 : List (AV × AV):=[
  ((.cons (bxI 0 0 2 2 4 4) .nil),(bxR 0 0 2 2 4 4)),
  ((.cons (bxI 8 0 2 10 4 4) .nil),(bxR 8 0 2 10 4 4)),
  ((.cons (bxI 0 0 4 4 4 6) .nil),(bxR 0 0 4 4 4 6)),
  ((.cons (bxI 6 0 4 10 4 6) .nil),(bxR 6 0 4 10 4 6)),
  ((.cons (bxI 2 2 2 8 4 4) .nil),(bxR 2 2 2 8 4 4)),
  ((.cons (bxI 4 2 4 6 4 8) .nil),(bxR 4 2 4 6 4 8))]
theorem stranRi21 : ranAll Tryz.prog ov0 318 stRi21 = true:=by decide +kernel
noncomputable def stRi22 : List (AV × AV):=[
  ((.cons (bxI 0 0 0 10 6 2) .nil),(bxR 0 0 0 10 6 2)),
  ((.cons (bxI 0 0 2 2 6 4) .nil),(bxR 0 0 2 2 6 4)),
  ((.cons (bxI 8 0 2 10 6 4) .nil),(bxR 8 0 2 10 6 4)),
  ((.cons (bxI 0 0 4 4 6 6) .nil),(bxR 0 0 4 4 6 6)),
  ((.cons (bxI 6 0 4 10 6 6) .nil),(bxR 6 0 4 10 6 6)),
  ((.cons (bxI 2 4 2 8 6 4) .nil),(bxR 2 4 2 8 6 4))]
theorem stranRi22 : ranAll Tryz.prog ov0 318 stRi22 = true:=by decide +kernel
noncomputable def stRi23 : List (AV × AV):=[
  ((.cons (bxI 4 4 4 6 6 8) .nil),(bxR 4 4 4 6 6 8))]
theorem stranRi23 : ranAll Tryz.prog ov0 318 stRi23 = true:=by decide +kernel
noncomputable def stRi24 : List (AV × AV):=[
  ((.cons (bxI 12 0 3 15 3 6) .nil),(bxR 12 0 3 15 3 6)),
  ((.cons (bxI 0 0 6 6 3 9) .nil),(bxR 0 0 6 6 3 9)),
  ((.cons (bxI 9 0 6 15 3 9) .nil),(bxR 9 0 6 15 3 9)),
  ((.cons (bxI 3 0 3 12 3 6) .nil),(bxR 3 0 3 12 3 6)),
  ((.cons (bxI 6 0 6 9 3 12) .nil),(bxR 6 0 6 9 3 12)),
  ((.cons (bxI 0 0 0 15 6 3) .nil),(bxR 0 0 0 15 6 3))]
theorem stranRi24 : ranAll Tryz.prog ov0 318 stRi24 = true:=by decide +kernel
noncomputable def stRi25 : List (AV × AV):=[
  ((.cons (bxI 0 0 3 3 6 6) .nil),(bxR 0 0 3 3 6 6)),
  ((.cons (bxI 12 0 3 15 6 6) .nil),(bxR 12 0 3 15 6 6)),
  ((.cons (bxI 0 0 6 6 6 9) .nil),(bxR 0 0 6 6 6 9)),
  ((.cons (bxI 9 0 6 15 6 9) .nil),(bxR 9 0 6 15 6 9)),
  ((.cons (bxI 3 3 3 12 6 6) .nil),(bxR 3 3 3 12 6 6)),
  ((.cons (bxI 6 3 6 9 6 12) .nil),(bxR 6 3 6 9 6 12))]
theorem stranRi25 : ranAll Tryz.prog ov0 318 stRi25 = true:=by decide +kernel
noncomputable def stRi26 : List (AV × AV):=[
  ((.cons (bxI 0 0 0 15 9 3) .nil),(bxR 0 0 0 15 9 3)),
  ((.cons (bxI 0 0 3 3 9 6) .nil),(bxR 0 0 3 3 9 6)),
  ((.cons (bxI 12 0 3 15 9 6) .nil),(bxR 12 0 3 15 9 6)),
  ((.cons (bxI 0 0 6 6 9 9) .nil),(bxR 0 0 6 6 9 9)),
  ((.cons (bxI 9 0 6 15 9 9) .nil),(bxR 9 0 6 15 9 9)),
  ((.cons (bxI 3 6 3 12 9 6) .nil),(bxR 3 6 3 12 9 6))]
theorem stranRi26 : ranAll Tryz.prog ov0 318 stRi26 = true:=by decide +kernel
noncomputable def stRi27 : List (AV × AV):=[
  ((.cons (bxI 6 6 6 9 9 12) .nil),(bxR 6 6 6 9 9 12))]
theorem stranRi27 : ranAll Tryz.prog ov0 318 stRi27 = true:=by decide +kernel
noncomputable def stRi28 : List (AV × AV):=[
  ((.cons (bxI 16 0 4 20 4 8) .nil),(bxR 16 0 4 20 4 8)),
  ((.cons (bxI 0 0 8 8 4 12) .nil),(bxR 0 0 8 8 4 12)),
  ((.cons (bxI 12 0 8 20 4 12) .nil),(bxR 12 0 8 20 4 12)),
  ((.cons (bxI 4 0 4 16 4 8) .nil),(bxR 4 0 4 16 4 8)),
  ((.cons (bxI 8 0 8 12 4 16) .nil),(bxR 8 0 8 12 4 16)),
  ((.cons (bxI 0 0 0 20 8 4) .nil),(bxR 0 0 0 20 8 4))]
theorem stranRi28 : ranAll Tryz.prog ov0 318 stRi28 = true:=by decide +kernel
noncomputable def stRi29 : List (AV × AV):=[
  ((.cons (bxI 0 0 4 4 8 8) .nil),(bxR 0 0 4 4 8 8)),
  ((.cons (bxI 16 0 4 20 8 8) .nil),(bxR 16 0 4 20 8 8)),
  ((.cons (bxI 0 0 8 8 8 12) .nil),(bxR 0 0 8 8 8 12)),
  ((.cons (bxI 12 0 8 20 8 12) .nil),(bxR 12 0 8 20 8 12)),
  ((.cons (bxI 4 4 4 16 8 8) .nil),(bxR 4 4 4 16 8 8)),
  ((.cons (bxI 8 4 8 12 8 16) .nil),(bxR 8 4 8 12 8 16))]
theorem stranRi29 : ranAll Tryz.prog ov0 318 stRi29 = true:=by decide +kernel
noncomputable def stRi30 : List (AV × AV):=[
  ((.cons (bxI 0 0 0 20 12 4) .nil),(bxR 0 0 0 20 12 4)),
  ((.cons (bxI 0 0 4 4 12 8) .nil),(bxR 0 0 4 4 12 8)),
  ((.cons (bxI 16 0 4 20 12 8) .nil),(bxR 16 0 4 20 12 8)),
  ((.cons (bxI 0 0 8 8 12 12) .nil),(bxR 0 0 8 8 12 12)),
  ((.cons (bxI 12 0 8 20 12 12) .nil),(bxR 12 0 8 20 12 12)),
  ((.cons (bxI 4 8 4 16 12 8) .nil),(bxR 4 8 4 16 12 8))]
theorem stranRi30 : ranAll Tryz.prog ov0 318 stRi30 = true:=by decide +kernel
noncomputable def stRi31 : List (AV × AV):=[
  ((.cons (bxI 8 8 8 12 12 16) .nil),(bxR 8 8 8 12 12 16))]
theorem stranRi31 : ranAll Tryz.prog ov0 318 stRi31 = true:=by decide +kernel
end Go.Sy
