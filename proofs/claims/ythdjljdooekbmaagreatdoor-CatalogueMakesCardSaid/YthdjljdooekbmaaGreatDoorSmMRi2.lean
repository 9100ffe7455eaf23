/- Runs of dowel/cell.rings. -/
import Derived.Test.YthdjljdooekbmaaGreatDoorSmV1
namespace Go.Sy
open Go.RowKit Go.Proofs
set_option linter.unusedVariables false
set_option maxRecDepth 1000000
set_option maxHeartbeats 0
noncomputable def smRi16 : List (AV × AV) := [
  ((.cons smv410 .nil), smv412),
  ((.cons smv416 .nil), smv412),
  ((.cons smv420 .nil), smv412),
  ((.cons smv426 .nil), smv428),
  ((.cons smv432 .nil), smv428)]
theorem smranRi16 : ranAll Tryz.prog ov0 206 smRi16 = true := by decide +kernel
noncomputable def smRi17 : List (AV × AV) := [
  ((.cons smv436 .nil), smv438),
  ((.cons smv442 .nil), smv438),
  ((.cons smv446 .nil), smv448),
  ((.cons smv452 .nil), smv448),
  ((.cons smv456 .nil), smv438)]
theorem smranRi17 : ranAll Tryz.prog ov0 206 smRi17 = true := by decide +kernel
noncomputable def smRi18 : List (AV × AV) := [
  ((.cons smv460 .nil), smv438),
  ((.cons smv466 .nil), smv468),
  ((.cons smv472 .nil), smv402),
  ((.cons smv476 .nil), smv402),
  ((.cons smv480 .nil), smv482)]
theorem smranRi18 : ranAll Tryz.prog ov0 206 smRi18 = true := by decide +kernel
noncomputable def smRi19 : List (AV × AV) := [
  ((.cons smv486 .nil), smv482),
  ((.cons smv490 .nil), smv412),
  ((.cons smv494 .nil), smv468),
  ((.cons smv502 .nil), smv152),
  ((.cons smv506 .nil), smv84)]
theorem smranRi19 : ranAll Tryz.prog ov0 206 smRi19 = true := by decide +kernel
noncomputable def smRi20 : List (AV × AV) := [
  ((.cons smv510 .nil), smv512),
  ((.cons smv516 .nil), smv518),
  ((.cons smv522 .nil), smv518),
  ((.cons smv526 .nil), smv206),
  ((.cons smv530 .nil), smv206)]
theorem smranRi20 : ranAll Tryz.prog ov0 206 smRi20 = true := by decide +kernel
noncomputable def smRi21 : List (AV × AV) := [
  ((.cons smv534 .nil), smv206),
  ((.cons smv538 .nil), smv512),
  ((.cons smv542 .nil), smv544),
  ((.cons smv548 .nil), smv544),
  ((.cons smv552 .nil), smv554)]
theorem smranRi21 : ranAll Tryz.prog ov0 206 smRi21 = true := by decide +kernel
noncomputable def smRi22 : List (AV × AV) := [
  ((.cons smv558 .nil), smv554),
  ((.cons smv562 .nil), smv152),
  ((.cons smv568 .nil), smv570),
  ((.cons smv574 .nil), smv518),
  ((.cons smv578 .nil), smv216)]
theorem smranRi22 : ranAll Tryz.prog ov0 206 smRi22 = true := by decide +kernel
noncomputable def smRi23 : List (AV × AV) := [
  ((.cons smv582 .nil), smv216),
  ((.cons smv586 .nil), smv206),
  ((.cons smv590 .nil), smv206),
  ((.cons smv594 .nil), smv570),
  ((.cons smv598 .nil), smv468)]
theorem smranRi23 : ranAll Tryz.prog ov0 206 smRi23 = true := by decide +kernel
end Go.Sy
