/- Runs of dowel/cell.rings. -/
import Derived.Test.YtialjngnlekplaaGreatDoorStMMo0
namespace Go.Sy
open Go.RowKit Go.Proofs
set_option linter.unusedVariables false
set_option maxRecDepth 1000000
set_option maxHeartbeats 0
noncomputable def stRi32 : List (AV × AV) := [
  ((.cons (bxI 42 0 0 45 15 3) .nil), (bxR 42 0 0 45 15 3)),
  ((.cons (bxI 27 0 0 42 3 3) .nil), (bxR 27 0 0 42 3 3)),
  ((.cons (bxI 27 12 0 42 15 3) .nil), (bxR 27 12 0 42 15 3)),
  ((.cons (bxI 36 6 (-6) 39 9 9) .nil), (bxR 36 6 (-6) 39 9 9)),
  ((.cons (bxI 54 6 (-6) 57 9 9) .nil), (bxR 54 6 (-6) 57 9 9))]
theorem stranRi32 : ranAll Tryz.prog ov0 217 stRi32 = true := by decide +kernel
noncomputable def stRi33 : List (AV × AV) := [
  ((.cons (bxI 39 6 (-6) 54 9 (-3)) .nil), (bxR 39 6 (-6) 54 9 (-3))),
  ((.cons (bxI 39 6 6 54 9 9) .nil), (bxR 39 6 6 54 9 9)),
  ((.cons (bxI 16 0 0 18 10 2) .nil), (bxR 16 0 0 18 10 2)),
  ((.cons (bxI 28 0 0 30 10 2) .nil), (bxR 28 0 0 30 10 2)),
  ((.cons (bxI 18 0 0 28 2 2) .nil), (bxR 18 0 0 28 2 2))]
theorem stranRi33 : ranAll Tryz.prog ov0 217 stRi33 = true := by decide +kernel
noncomputable def stRi34 : List (AV × AV) := [
  ((.cons (bxI 18 8 0 28 10 2) .nil), (bxR 18 8 0 28 10 2)),
  ((.cons (bxI 24 4 (-4) 26 6 6) .nil), (bxR 24 4 (-4) 26 6 6)),
  ((.cons (bxI 36 4 (-4) 38 6 6) .nil), (bxR 36 4 (-4) 38 6 6)),
  ((.cons (bxI 26 4 (-4) 36 6 (-2)) .nil), (bxR 26 4 (-4) 36 6 (-2))),
  ((.cons (bxI 26 4 4 36 6 6) .nil), (bxR 26 4 4 36 6 6))]
theorem stranRi34 : ranAll Tryz.prog ov0 217 stRi34 = true := by decide +kernel
noncomputable def stRi35 : List (AV × AV) := [
  ((.cons (bxI 0 0 0 20 8 4) .nil), (bxR 0 0 0 20 8 4)),
  ((.cons (bxI 0 0 4 4 8 8) .nil), (bxR 0 0 4 4 8 8)),
  ((.cons (bxI 16 0 4 20 8 8) .nil), (bxR 16 0 4 20 8 8)),
  ((.cons (bxI 0 0 8 8 8 12) .nil), (bxR 0 0 8 8 8 12)),
  ((.cons (bxI 12 0 8 20 8 12) .nil), (bxR 12 0 8 20 8 12))]
theorem stranRi35 : ranAll Tryz.prog ov0 217 stRi35 = true := by decide +kernel
noncomputable def stRi36 : List (AV × AV) := [
  ((.cons (bxI 4 4 4 16 8 8) .nil), (bxR 4 4 4 16 8 8)),
  ((.cons (bxI 8 4 8 12 8 16) .nil), (bxR 8 4 8 12 8 16)),
  ((.cons (bxI 0 0 0 5 3 1) .nil), (bxR 0 0 0 5 3 1)),
  ((.cons (bxI 0 0 1 1 3 2) .nil), (bxR 0 0 1 1 3 2)),
  ((.cons (bxI 4 0 1 5 3 2) .nil), (bxR 4 0 1 5 3 2))]
theorem stranRi36 : ranAll Tryz.prog ov0 217 stRi36 = true := by decide +kernel
noncomputable def stRi37 : List (AV × AV) := [
  ((.cons (bxI 1 0 1 4 1 2) .nil), (bxR 1 0 1 4 1 2)),
  ((.cons (bxI 1 2 1 4 3 2) .nil), (bxR 1 2 1 4 3 2)),
  ((.cons (bxI 3 1 1 4 2 2) .nil), (bxR 3 1 1 4 2 2)),
  ((.cons (bxI 0 0 2 5 3 3) .nil), (bxR 0 0 2 5 3 3)),
  ((.cons (bxI 0 0 0 10 6 2) .nil), (bxR 0 0 0 10 6 2))]
theorem stranRi37 : ranAll Tryz.prog ov0 217 stRi37 = true := by decide +kernel
noncomputable def stRi38 : List (AV × AV) := [
  ((.cons (bxI 0 0 2 2 6 4) .nil), (bxR 0 0 2 2 6 4)),
  ((.cons (bxI 8 0 2 10 6 4) .nil), (bxR 8 0 2 10 6 4)),
  ((.cons (bxI 0 0 4 4 6 6) .nil), (bxR 0 0 4 4 6 6)),
  ((.cons (bxI 6 0 4 10 6 6) .nil), (bxR 6 0 4 10 6 6)),
  ((.cons (bxI 4 4 4 6 6 8) .nil), (bxR 4 4 4 6 6 8))]
theorem stranRi38 : ranAll Tryz.prog ov0 217 stRi38 = true := by decide +kernel
noncomputable def stRi39 : List (AV × AV) := [
  ((.cons (bxI 4 1 0 5 2 1) .nil), (bxR 4 1 0 5 2 1)),
  ((.cons (bxI 6 1 0 7 2 1) .nil), (bxR 6 1 0 7 2 1)),
  ((.cons (bxI 0 0 0 7 1 1) .nil), (bxR 0 0 0 7 1 1)),
  ((.cons (bxI 0 2 0 7 3 1) .nil), (bxR 0 2 0 7 3 1)),
  ((.cons (bxI 3 1 (-1) 4 2 2) .nil), (bxR 3 1 (-1) 4 2 2))]
theorem stranRi39 : ranAll Tryz.prog ov0 217 stRi39 = true := by decide +kernel
noncomputable def stRi40 : List (AV × AV) := [
  ((.cons (bxI 5 1 (-1) 6 2 2) .nil), (bxR 5 1 (-1) 6 2 2)),
  ((.cons (bxI 1 0 0 5 3 1) .nil), (bxR 1 0 0 5 3 1)),
  ((.cons (bxI 1 0 2 5 3 3) .nil), (bxR 1 0 2 5 3 3)),
  ((.cons (bxI 1 0 1 5 1 2) .nil), (bxR 1 0 1 5 1 2)),
  ((.cons (bxI 1 2 1 5 3 2) .nil), (bxR 1 2 1 5 3 2))]
theorem stranRi40 : ranAll Tryz.prog ov0 217 stRi40 = true := by decide +kernel
noncomputable def stRi41 : List (AV × AV) := [
  ((.cons (bxI 4 1 1 5 2 2) .nil), (bxR 4 1 1 5 2 2)),
  ((.cons (bxI 0 0 0 1 1 1) .nil), (bxR 0 0 0 1 1 1)),
  ((.cons (bxI 0 0 1 1 1 2) .nil), (bxR 0 0 1 1 1 2)),
  ((.cons (bxI 0 0 2 1 1 3) .nil), (bxR 0 0 2 1 1 3)),
  ((.cons (bxI 0 0 3 1 1 4) .nil), (bxR 0 0 3 1 1 4))]
theorem stranRi41 : ranAll Tryz.prog ov0 217 stRi41 = true := by decide +kernel
noncomputable def stRi42 : List (AV × AV) := [
  ((.cons (bxI 0 0 4 1 1 5) .nil), (bxR 0 0 4 1 1 5)),
  ((.cons (bxI 0 0 5 1 1 6) .nil), (bxR 0 0 5 1 1 6)),
  ((.cons (bxI 0 0 0 9 3 3) .nil), (bxR 0 0 0 9 3 3)),
  ((.cons (bxI 0 6 0 9 9 3) .nil), (bxR 0 6 0 9 9 3)),
  ((.cons (bxI 2 0 0 6 6 2) .nil), (bxR 2 0 0 6 6 2))]
theorem stranRi42 : ranAll Tryz.prog ov0 217 stRi42 = true := by decide +kernel
noncomputable def stRi43 : List (AV × AV) := [
  ((.cons (bxI 2 0 4 6 6 6) .nil), (bxR 2 0 4 6 6 6)),
  ((.cons (bxI 2 0 2 6 2 4) .nil), (bxR 2 0 2 6 2 4)),
  ((.cons (bxI 2 4 2 6 6 4) .nil), (bxR 2 4 2 6 6 4)),
  ((.cons (bxI 8 0 2 10 2 4) .nil), (bxR 8 0 2 10 2 4)),
  ((.cons (bxI 0 0 4 4 2 6) .nil), (bxR 0 0 4 4 2 6))]
theorem stranRi43 : ranAll Tryz.prog ov0 217 stRi43 = true := by decide +kernel
noncomputable def stRi44 : List (AV × AV) := [
  ((.cons (bxI 6 0 4 10 2 6) .nil), (bxR 6 0 4 10 2 6)),
  ((.cons (bxI 0 0 0 3 3 1) .nil), (bxR 0 0 0 3 3 1)),
  ((.cons (bxI 2 0 1 3 3 2) .nil), (bxR 2 0 1 3 3 2)),
  ((.cons (bxI 1 0 1 2 1 2) .nil), (bxR 1 0 1 2 1 2)),
  ((.cons (bxI 1 2 1 2 3 2) .nil), (bxR 1 2 1 2 3 2))]
theorem stranRi44 : ranAll Tryz.prog ov0 217 stRi44 = true := by decide +kernel
noncomputable def stRi45 : List (AV × AV) := [
  ((.cons (bxI 0 0 2 3 3 3) .nil), (bxR 0 0 2 3 3 3)),
  ((.cons (bxI 4 0 0 12 12 4) .nil), (bxR 4 0 0 12 12 4)),
  ((.cons (bxI 4 0 8 12 12 12) .nil), (bxR 4 0 8 12 12 12)),
  ((.cons (bxI 0 0 8 8 12 12) .nil), (bxR 0 0 8 8 12 12)),
  ((.cons (bxI 12 0 8 20 12 12) .nil), (bxR 12 0 8 20 12 12))]
theorem stranRi45 : ranAll Tryz.prog ov0 217 stRi45 = true := by decide +kernel
noncomputable def stRi46 : List (AV × AV) := [
  ((.cons (bxI 8 8 8 12 12 16) .nil), (bxR 8 8 8 12 12 16)),
  ((.cons (bxI 0 0 0 15 6 3) .nil), (bxR 0 0 0 15 6 3)),
  ((.cons (bxI 0 0 3 3 6 6) .nil), (bxR 0 0 3 3 6 6)),
  ((.cons (bxI 12 0 3 15 6 6) .nil), (bxR 12 0 3 15 6 6)),
  ((.cons (bxI 0 0 6 6 6 9) .nil), (bxR 0 0 6 6 6 9))]
theorem stranRi46 : ranAll Tryz.prog ov0 217 stRi46 = true := by decide +kernel
noncomputable def stRi47 : List (AV × AV) := [
  ((.cons (bxI 9 0 6 15 6 9) .nil), (bxR 9 0 6 15 6 9)),
  ((.cons (bxI 6 0 6 9 3 12) .nil), (bxR 6 0 6 9 3 12)),
  ((.cons (bxI 3 3 3 12 6 6) .nil), (bxR 3 3 3 12 6 6)),
  ((.cons (bxI 6 3 6 9 6 12) .nil), (bxR 6 3 6 9 6 12)),
  ((.cons (bxI 12 0 3 15 3 6) .nil), (bxR 12 0 3 15 3 6))]
theorem stranRi47 : ranAll Tryz.prog ov0 217 stRi47 = true := by decide +kernel
end Go.Sy
