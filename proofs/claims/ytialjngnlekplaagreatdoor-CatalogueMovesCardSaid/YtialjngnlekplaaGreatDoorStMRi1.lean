/- Runs of dowel/cell.rings. -/
import Derived.Test.YtialjngnlekplaaGreatDoorStMMo0
namespace Go.Sy
open Go.RowKit Go.Proofs
set_option linter.unusedVariables false
set_option maxRecDepth 1000000
set_option maxHeartbeats 0
noncomputable def stRi16 : List (AV × AV) := [
  ((.cons (bxI 2 2 2 8 4 4) .nil), (bxR 2 2 2 8 4 4)),
  ((.cons (bxI 4 2 4 6 4 8) .nil), (bxR 4 2 4 6 4 8)),
  ((.cons (bxI 0 1 0 1 2 1) .nil), (bxR 0 1 0 1 2 1)),
  ((.cons (bxI 2 1 0 3 2 1) .nil), (bxR 2 1 0 3 2 1)),
  ((.cons (bxI 0 0 0 3 1 1) .nil), (bxR 0 0 0 3 1 1))]
theorem stranRi16 : ranAll Tryz.prog ov0 217 stRi16 = true := by decide +kernel
noncomputable def stRi17 : List (AV × AV) := [
  ((.cons (bxI 0 2 0 3 3 1) .nil), (bxR 0 2 0 3 3 1)),
  ((.cons (bxI 1 1 (-1) 2 2 2) .nil), (bxR 1 1 (-1) 2 2 2)),
  ((.cons (bxI 0 0 0 3 3 3) .nil), (bxR 0 0 0 3 3 3)),
  ((.cons (bxI 0 0 3 3 3 6) .nil), (bxR 0 0 3 3 3 6)),
  ((.cons (bxI 0 0 6 3 3 9) .nil), (bxR 0 0 6 3 3 9))]
theorem stranRi17 : ranAll Tryz.prog ov0 217 stRi17 = true := by decide +kernel
noncomputable def stRi18 : List (AV × AV) := [
  ((.cons (bxI 0 0 9 3 3 12) .nil), (bxR 0 0 9 3 3 12)),
  ((.cons (bxI 0 0 12 3 3 15) .nil), (bxR 0 0 12 3 3 15)),
  ((.cons (bxI 0 0 15 3 3 18) .nil), (bxR 0 0 15 3 3 18)),
  ((.cons (bxI 0 4 0 4 8 4) .nil), (bxR 0 4 0 4 8 4)),
  ((.cons (bxI 8 4 0 12 8 4) .nil), (bxR 8 4 0 12 8 4))]
theorem stranRi18 : ranAll Tryz.prog ov0 217 stRi18 = true := by decide +kernel
noncomputable def stRi19 : List (AV × AV) := [
  ((.cons (bxI 16 4 0 20 8 4) .nil), (bxR 16 4 0 20 8 4)),
  ((.cons (bxI 0 8 0 20 12 4) .nil), (bxR 0 8 0 20 12 4)),
  ((.cons (bxI 4 4 (-4) 8 8 8) .nil), (bxR 4 4 (-4) 8 8 8)),
  ((.cons (bxI 12 4 (-4) 16 8 8) .nil), (bxR 12 4 (-4) 16 8 8)),
  ((.cons (bxI 0 0 0 4 12 12) .nil), (bxR 0 0 0 4 12 12))]
theorem stranRi19 : ranAll Tryz.prog ov0 217 stRi19 = true := by decide +kernel
noncomputable def stRi20 : List (AV × AV) := [
  ((.cons (bxI 4 0 0 16 12 4) .nil), (bxR 4 0 0 16 12 4)),
  ((.cons (bxI 4 0 8 16 12 12) .nil), (bxR 4 0 8 16 12 12)),
  ((.cons (bxI 4 8 4 16 12 8) .nil), (bxR 4 8 4 16 12 8)),
  ((.cons (bxI 12 4 4 16 8 8) .nil), (bxR 12 4 4 16 8 8)),
  ((.cons (bxI 0 0 0 2 2 2) .nil), (bxR 0 0 0 2 2 2))]
theorem stranRi20 : ranAll Tryz.prog ov0 217 stRi20 = true := by decide +kernel
noncomputable def stRi21 : List (AV × AV) := [
  ((.cons (bxI 0 0 2 2 2 4) .nil), (bxR 0 0 2 2 2 4)),
  ((.cons (bxI 0 0 4 2 2 6) .nil), (bxR 0 0 4 2 2 6)),
  ((.cons (bxI 0 0 6 2 2 8) .nil), (bxR 0 0 6 2 2 8)),
  ((.cons (bxI 0 0 8 2 2 10) .nil), (bxR 0 0 8 2 2 10)),
  ((.cons (bxI 0 0 0 2 6 6) .nil), (bxR 0 0 0 2 6 6))]
theorem stranRi21 : ranAll Tryz.prog ov0 217 stRi21 = true := by decide +kernel
noncomputable def stRi22 : List (AV × AV) := [
  ((.cons (bxI 2 0 0 8 6 2) .nil), (bxR 2 0 0 8 6 2)),
  ((.cons (bxI 2 0 4 8 6 6) .nil), (bxR 2 0 4 8 6 6)),
  ((.cons (bxI 2 4 2 8 6 4) .nil), (bxR 2 4 2 8 6 4)),
  ((.cons (bxI 2 2 2 4 4 4) .nil), (bxR 2 2 2 4 4 4)),
  ((.cons (bxI 4 2 2 6 4 4) .nil), (bxR 4 2 2 6 4 4))]
theorem stranRi22 : ranAll Tryz.prog ov0 217 stRi22 = true := by decide +kernel
noncomputable def stRi23 : List (AV × AV) := [
  ((.cons (bxI 6 2 2 8 4 4) .nil), (bxR 6 2 2 8 4 4)),
  ((.cons (bxI 0 0 0 20 12 4) .nil), (bxR 0 0 0 20 12 4)),
  ((.cons (bxI 16 0 4 20 12 8) .nil), (bxR 16 0 4 20 12 8)),
  ((.cons (bxI 0 0 8 20 12 12) .nil), (bxR 0 0 8 20 12 12)),
  ((.cons (bxI 3 0 0 6 9 3) .nil), (bxR 3 0 0 6 9 3))]
theorem stranRi23 : ranAll Tryz.prog ov0 217 stRi23 = true := by decide +kernel
noncomputable def stRi24 : List (AV × AV) := [
  ((.cons (bxI 3 0 6 6 9 9) .nil), (bxR 3 0 6 6 9 9)),
  ((.cons (bxI 3 0 3 6 3 6) .nil), (bxR 3 0 3 6 3 6)),
  ((.cons (bxI 3 6 3 6 9 6) .nil), (bxR 3 6 3 6 9 6)),
  ((.cons (bxI 18 3 0 21 6 3) .nil), (bxR 18 3 0 21 6 3)),
  ((.cons (bxI 0 0 0 21 3 3) .nil), (bxR 0 0 0 21 3 3))]
theorem stranRi24 : ranAll Tryz.prog ov0 217 stRi24 = true := by decide +kernel
noncomputable def stRi25 : List (AV × AV) := [
  ((.cons (bxI 0 6 0 21 9 3) .nil), (bxR 0 6 0 21 9 3)),
  ((.cons (bxI 15 3 (-3) 18 6 6) .nil), (bxR 15 3 (-3) 18 6 6)),
  ((.cons (bxI 0 0 0 1 5 1) .nil), (bxR 0 0 0 1 5 1)),
  ((.cons (bxI 6 0 0 7 5 1) .nil), (bxR 6 0 0 7 5 1)),
  ((.cons (bxI 1 0 0 6 1 1) .nil), (bxR 1 0 0 6 1 1))]
theorem stranRi25 : ranAll Tryz.prog ov0 217 stRi25 = true := by decide +kernel
noncomputable def stRi26 : List (AV × AV) := [
  ((.cons (bxI 1 4 0 6 5 1) .nil), (bxR 1 4 0 6 5 1)),
  ((.cons (bxI 4 2 (-2) 5 3 3) .nil), (bxR 4 2 (-2) 5 3 3)),
  ((.cons (bxI 10 2 (-2) 11 3 3) .nil), (bxR 10 2 (-2) 11 3 3)),
  ((.cons (bxI 5 2 (-2) 10 3 (-1)) .nil), (bxR 5 2 (-2) 10 3 (-1))),
  ((.cons (bxI 5 2 2 10 3 3) .nil), (bxR 5 2 2 10 3 3))]
theorem stranRi26 : ranAll Tryz.prog ov0 217 stRi26 = true := by decide +kernel
noncomputable def stRi27 : List (AV × AV) := [
  ((.cons (bxI 8 0 0 9 5 1) .nil), (bxR 8 0 0 9 5 1)),
  ((.cons (bxI 14 0 0 15 5 1) .nil), (bxR 14 0 0 15 5 1)),
  ((.cons (bxI 9 0 0 14 1 1) .nil), (bxR 9 0 0 14 1 1)),
  ((.cons (bxI 9 4 0 14 5 1) .nil), (bxR 9 4 0 14 5 1)),
  ((.cons (bxI 12 2 (-2) 13 3 3) .nil), (bxR 12 2 (-2) 13 3 3))]
theorem stranRi27 : ranAll Tryz.prog ov0 217 stRi27 = true := by decide +kernel
noncomputable def stRi28 : List (AV × AV) := [
  ((.cons (bxI 18 2 (-2) 19 3 3) .nil), (bxR 18 2 (-2) 19 3 3)),
  ((.cons (bxI 13 2 (-2) 18 3 (-1)) .nil), (bxR 13 2 (-2) 18 3 (-1))),
  ((.cons (bxI 13 2 2 18 3 3) .nil), (bxR 13 2 2 18 3 3)),
  ((.cons (bxI 24 4 0 28 8 4) .nil), (bxR 24 4 0 28 8 4)),
  ((.cons (bxI 0 0 0 28 4 4) .nil), (bxR 0 0 0 28 4 4))]
theorem stranRi28 : ranAll Tryz.prog ov0 217 stRi28 = true := by decide +kernel
noncomputable def stRi29 : List (AV × AV) := [
  ((.cons (bxI 0 8 0 28 12 4) .nil), (bxR 0 8 0 28 12 4)),
  ((.cons (bxI 20 4 (-4) 24 8 8) .nil), (bxR 20 4 (-4) 24 8 8)),
  ((.cons (bxI 8 2 0 10 4 2) .nil), (bxR 8 2 0 10 4 2)),
  ((.cons (bxI 0 0 0 10 2 2) .nil), (bxR 0 0 0 10 2 2)),
  ((.cons (bxI 0 4 0 10 6 2) .nil), (bxR 0 4 0 10 6 2))]
theorem stranRi29 : ranAll Tryz.prog ov0 217 stRi29 = true := by decide +kernel
noncomputable def stRi30 : List (AV × AV) := [
  ((.cons (bxI 6 2 (-2) 8 4 4) .nil), (bxR 6 2 (-2) 8 4 4)),
  ((.cons (bxI 3 0 0 15 9 3) .nil), (bxR 3 0 0 15 9 3)),
  ((.cons (bxI 3 0 6 15 9 9) .nil), (bxR 3 0 6 15 9 9)),
  ((.cons (bxI 3 0 3 15 3 6) .nil), (bxR 3 0 3 15 3 6)),
  ((.cons (bxI 3 6 3 15 9 6) .nil), (bxR 3 6 3 15 9 6))]
theorem stranRi30 : ranAll Tryz.prog ov0 217 stRi30 = true := by decide +kernel
noncomputable def stRi31 : List (AV × AV) := [
  ((.cons (bxI 12 3 3 15 6 6) .nil), (bxR 12 3 3 15 6 6)),
  ((.cons (bxI 0 0 0 9 9 3) .nil), (bxR 0 0 0 9 9 3)),
  ((.cons (bxI 6 0 3 9 9 6) .nil), (bxR 6 0 3 9 9 6)),
  ((.cons (bxI 0 0 6 9 9 9) .nil), (bxR 0 0 6 9 9 9)),
  ((.cons (bxI 24 0 0 27 15 3) .nil), (bxR 24 0 0 27 15 3))]
theorem stranRi31 : ranAll Tryz.prog ov0 217 stRi31 = true := by decide +kernel
end Go.Sy
