/- Runs of dowel/cell.rings. -/
import Derived.Test.YthdjljdooekbmaaGreatDoorSmV1
namespace Go.Sy
open Go.RowKit Go.Proofs
set_option linter.unusedVariables false
set_option maxRecDepth 1000000
set_option maxHeartbeats 0
noncomputable def smRi40 : List (AV × AV) := [
  ((.cons smv964 .nil), smv926),
  ((.cons smv968 .nil), smv146),
  ((.cons smv972 .nil), smv146),
  ((.cons smv976 .nil), smv978),
  ((.cons smv982 .nil), smv402)]
theorem smranRi40 : ranAll Tryz.prog ov0 206 smRi40 = true := by decide +kernel
noncomputable def smRi41 : List (AV × AV) := [
  ((.cons smv986 .nil), smv978),
  ((.cons smv990 .nil), smv992),
  ((.cons smv996 .nil), smv518),
  ((.cons smv1000 .nil), smv1002),
  ((.cons smv1006 .nil), smv1002)]
theorem smranRi41 : ranAll Tryz.prog ov0 206 smRi41 = true := by decide +kernel
noncomputable def smRi42 : List (AV × AV) := [
  ((.cons smv1010 .nil), smv992),
  ((.cons smv1014 .nil), smv190),
  ((.cons smv1020 .nil), smv244),
  ((.cons smv1024 .nil), smv244),
  ((.cons smv1028 .nil), smv90)]
theorem smranRi42 : ranAll Tryz.prog ov0 206 smRi42 = true := by decide +kernel
noncomputable def smRi43 : List (AV × AV) := [
  ((.cons smv1032 .nil), smv90),
  ((.cons smv1036 .nil), smv152),
  ((.cons smv1040 .nil), smv152),
  ((.cons smv1044 .nil), smv190),
  ((.cons smv1048 .nil), smv190)]
theorem smranRi43 : ranAll Tryz.prog ov0 206 smRi43 = true := by decide +kernel
noncomputable def smRi44 : List (AV × AV) := [
  ((.cons smv1052 .nil), smv190),
  ((.cons smv1056 .nil), smv438),
  ((.cons smv1060 .nil), smv1062),
  ((.cons smv1066 .nil), smv1062),
  ((.cons smv1070 .nil), smv1072)]
theorem smranRi44 : ranAll Tryz.prog ov0 206 smRi44 = true := by decide +kernel
noncomputable def smRi45 : List (AV × AV) := [
  ((.cons smv1076 .nil), smv180),
  ((.cons smv1080 .nil), smv656),
  ((.cons smv1084 .nil), smv656),
  ((.cons smv1088 .nil), smv190),
  ((.cons smv1092 .nil), smv1072)]
theorem smranRi45 : ranAll Tryz.prog ov0 206 smRi45 = true := by decide +kernel
noncomputable def smRi46 : List (AV × AV) := [
  ((.cons smv1096 .nil), smv544),
  ((.cons smv1100 .nil), smv90),
  ((.cons smv1104 .nil), smv544),
  ((.cons smv1108 .nil), smv944),
  ((.cons smv1112 .nil), smv944)]
theorem smranRi46 : ranAll Tryz.prog ov0 206 smRi46 = true := by decide +kernel
noncomputable def smRi47 : List (AV × AV) := [
  ((.cons smv1116 .nil), smv146),
  ((.cons smv1120 .nil), smv146),
  ((.cons smv1124 .nil), smv1126),
  ((.cons smv1130 .nil), smv1132),
  ((.cons smv1136 .nil), smv1132)]
theorem smranRi47 : ranAll Tryz.prog ov0 206 smRi47 = true := by decide +kernel
end Go.Sy
