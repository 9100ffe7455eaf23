/- Runs of dowel/cell.rings. -/
import Derived.Test.YthdjljdooekbmaaGreatDoorSmV1
namespace Go.Sy
open Go.RowKit Go.Proofs
set_option linter.unusedVariables false
set_option maxRecDepth 1000000
set_option maxHeartbeats 0
noncomputable def smRi32 : List (AV × AV) := [
  ((.cons smv778 .nil), smv774),
  ((.cons smv782 .nil), smv784),
  ((.cons smv788 .nil), smv180),
  ((.cons smv792 .nil), smv180),
  ((.cons smv796 .nil), smv798)]
theorem smranRi32 : ranAll Tryz.prog ov0 206 smRi32 = true := by decide +kernel
noncomputable def smRi33 : List (AV × AV) := [
  ((.cons smv802 .nil), smv798),
  ((.cons smv806 .nil), smv364),
  ((.cons smv810 .nil), smv370),
  ((.cons smv814 .nil), smv152),
  ((.cons smv818 .nil), smv152)]
theorem smranRi33 : ranAll Tryz.prog ov0 206 smRi33 = true := by decide +kernel
noncomputable def smRi34 : List (AV × AV) := [
  ((.cons smv822 .nil), smv152),
  ((.cons smv826 .nil), smv152),
  ((.cons smv830 .nil), smv152),
  ((.cons smv836 .nil), smv206),
  ((.cons smv840 .nil), smv206)]
theorem smranRi34 : ranAll Tryz.prog ov0 206 smRi34 = true := by decide +kernel
noncomputable def smRi35 : List (AV × AV) := [
  ((.cons smv844 .nil), smv846),
  ((.cons smv850 .nil), smv846),
  ((.cons smv854 .nil), smv856),
  ((.cons smv860 .nil), smv518),
  ((.cons smv864 .nil), smv518)]
theorem smranRi35 : ranAll Tryz.prog ov0 206 smRi35 = true := by decide +kernel
noncomputable def smRi36 : List (AV × AV) := [
  ((.cons smv868 .nil), smv190),
  ((.cons smv872 .nil), smv190),
  ((.cons smv878 .nil), smv880),
  ((.cons smv884 .nil), smv886),
  ((.cons smv890 .nil), smv886)]
theorem smranRi36 : ranAll Tryz.prog ov0 206 smRi36 = true := by decide +kernel
noncomputable def smRi37 : List (AV × AV) := [
  ((.cons smv894 .nil), smv896),
  ((.cons smv900 .nil), smv896),
  ((.cons smv904 .nil), smv906),
  ((.cons smv910 .nil), smv912),
  ((.cons smv916 .nil), smv906)]
theorem smranRi37 : ranAll Tryz.prog ov0 206 smRi37 = true := by decide +kernel
noncomputable def smRi38 : List (AV × AV) := [
  ((.cons smv920 .nil), smv912),
  ((.cons smv924 .nil), smv926),
  ((.cons smv930 .nil), smv926),
  ((.cons smv934 .nil), smv146),
  ((.cons smv938 .nil), smv146)]
theorem smranRi38 : ranAll Tryz.prog ov0 206 smRi38 = true := by decide +kernel
noncomputable def smRi39 : List (AV × AV) := [
  ((.cons smv942 .nil), smv944),
  ((.cons smv948 .nil), smv944),
  ((.cons smv952 .nil), smv146),
  ((.cons smv956 .nil), smv146),
  ((.cons smv960 .nil), smv926)]
theorem smranRi39 : ranAll Tryz.prog ov0 206 smRi39 = true := by decide +kernel
end Go.Sy
