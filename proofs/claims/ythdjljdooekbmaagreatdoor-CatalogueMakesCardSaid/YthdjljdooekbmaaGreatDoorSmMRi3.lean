/- Runs of dowel/cell.rings. -/
import Derived.Test.YthdjljdooekbmaaGreatDoorSmV1
namespace Go.Sy
open Go.RowKit Go.Proofs
set_option linter.unusedVariables false
set_option maxRecDepth 1000000
set_option maxHeartbeats 0
noncomputable def smRi24 : List (AV × AV) := [
  ((.cons smv602 .nil), smv468),
  ((.cons smv606 .nil), smv608),
  ((.cons smv612 .nil), smv608),
  ((.cons smv616 .nil), smv412),
  ((.cons smv620 .nil), smv412)]
theorem smranRi24 : ranAll Tryz.prog ov0 206 smRi24 = true := by decide +kernel
noncomputable def smRi25 : List (AV × AV) := [
  ((.cons smv624 .nil), smv428),
  ((.cons smv628 .nil), smv428),
  ((.cons smv632 .nil), smv438),
  ((.cons smv636 .nil), smv438),
  ((.cons smv642 .nil), smv438)]
theorem smranRi25 : ranAll Tryz.prog ov0 206 smRi25 = true := by decide +kernel
noncomputable def smRi26 : List (AV × AV) := [
  ((.cons smv646 .nil), smv190),
  ((.cons smv650 .nil), smv190),
  ((.cons smv654 .nil), smv656),
  ((.cons smv660 .nil), smv656),
  ((.cons smv664 .nil), smv666)]
theorem smranRi26 : ranAll Tryz.prog ov0 206 smRi26 = true := by decide +kernel
noncomputable def smRi27 : List (AV × AV) := [
  ((.cons smv670 .nil), smv666),
  ((.cons smv674 .nil), smv676),
  ((.cons smv680 .nil), smv216),
  ((.cons smv684 .nil), smv676),
  ((.cons smv688 .nil), smv676)]
theorem smranRi27 : ranAll Tryz.prog ov0 206 smRi27 = true := by decide +kernel
noncomputable def smRi28 : List (AV × AV) := [
  ((.cons smv692 .nil), smv152),
  ((.cons smv696 .nil), smv152),
  ((.cons smv700 .nil), smv152),
  ((.cons smv704 .nil), smv146),
  ((.cons smv708 .nil), smv710)]
theorem smranRi28 : ranAll Tryz.prog ov0 206 smRi28 = true := by decide +kernel
noncomputable def smRi29 : List (AV × AV) := [
  ((.cons smv714 .nil), smv710),
  ((.cons smv718 .nil), smv190),
  ((.cons smv722 .nil), smv190),
  ((.cons smv726 .nil), smv206),
  ((.cons smv730 .nil), smv206)]
theorem smranRi29 : ranAll Tryz.prog ov0 206 smRi29 = true := by decide +kernel
noncomputable def smRi30 : List (AV × AV) := [
  ((.cons smv734 .nil), smv736),
  ((.cons smv740 .nil), smv736),
  ((.cons smv744 .nil), smv226),
  ((.cons smv748 .nil), smv226),
  ((.cons smv752 .nil), smv412)]
theorem smranRi30 : ranAll Tryz.prog ov0 206 smRi30 = true := by decide +kernel
noncomputable def smRi31 : List (AV × AV) := [
  ((.cons smv756 .nil), smv412),
  ((.cons smv760 .nil), smv412),
  ((.cons smv764 .nil), smv20),
  ((.cons smv768 .nil), smv20),
  ((.cons smv772 .nil), smv774)]
theorem smranRi31 : ranAll Tryz.prog ov0 206 smRi31 = true := by decide +kernel
end Go.Sy
