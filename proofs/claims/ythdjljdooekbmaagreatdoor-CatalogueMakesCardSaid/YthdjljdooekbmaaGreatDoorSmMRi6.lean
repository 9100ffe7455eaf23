/- Runs of dowel/cell.rings. -/
import Derived.Test.YthdjljdooekbmaaGreatDoorSmV1
namespace Go.Sy
open Go.RowKit Go.Proofs
set_option linter.unusedVariables false
set_option maxRecDepth 1000000
set_option maxHeartbeats 0
noncomputable def smRi48 : List (AV × AV) := [
  ((.cons smv1140 .nil), smv1142),
  ((.cons smv1146 .nil), smv1142),
  ((.cons smv1154 .nil), smv448),
  ((.cons smv1158 .nil), smv448),
  ((.cons smv1162 .nil), smv438)]
theorem smranRi48 : ranAll Tryz.prog ov0 206 smRi48 = true := by decide +kernel
noncomputable def smRi49 : List (AV × AV) := [
  ((.cons smv1166 .nil), smv438),
  ((.cons smv1170 .nil), smv152),
  ((.cons smv1174 .nil), smv1176),
  ((.cons smv1180 .nil), smv1176),
  ((.cons smv1184 .nil), smv710)]
theorem smranRi49 : ranAll Tryz.prog ov0 206 smRi49 = true := by decide +kernel
noncomputable def smRi50 : List (AV × AV) := [
  ((.cons smv1188 .nil), smv412),
  ((.cons smv1192 .nil), smv412),
  ((.cons smv1196 .nil), smv1198),
  ((.cons smv1202 .nil), smv180),
  ((.cons smv1206 .nil), smv1198)]
theorem smranRi50 : ranAll Tryz.prog ov0 206 smRi50 = true := by decide +kernel
noncomputable def smRi51 : List (AV × AV) := [
  ((.cons smv1210 .nil), smv1212),
  ((.cons smv1216 .nil), smv1218),
  ((.cons smv1222 .nil), smv1218),
  ((.cons smv1226 .nil), smv1228),
  ((.cons smv1232 .nil), smv1228)]
theorem smranRi51 : ranAll Tryz.prog ov0 206 smRi51 = true := by decide +kernel
noncomputable def smRi52 : List (AV × AV) := [
  ((.cons smv1236 .nil), smv412),
  ((.cons smv1240 .nil), smv412),
  ((.cons smv1244 .nil), smv666),
  ((.cons smv1248 .nil), smv666),
  ((.cons smv1252 .nil), smv412)]
theorem smranRi52 : ranAll Tryz.prog ov0 206 smRi52 = true := by decide +kernel
noncomputable def smRi53 : List (AV × AV) := [
  ((.cons smv1256 .nil), smv412),
  ((.cons smv1262 .nil), smv206),
  ((.cons smv1266 .nil), smv1002),
  ((.cons smv1270 .nil), smv1002),
  ((.cons smv1274 .nil), smv1276)]
theorem smranRi53 : ranAll Tryz.prog ov0 206 smRi53 = true := by decide +kernel
noncomputable def smRi54 : List (AV × AV) := [
  ((.cons smv1280 .nil), smv90),
  ((.cons smv1284 .nil), smv1276),
  ((.cons smv1288 .nil), smv206),
  ((.cons smv1294 .nil), smv190),
  ((.cons smv1298 .nil), smv784)]
theorem smranRi54 : ranAll Tryz.prog ov0 206 smRi54 = true := by decide +kernel
noncomputable def smRi55 : List (AV × AV) := [
  ((.cons smv1302 .nil), smv992),
  ((.cons smv1306 .nil), smv992),
  ((.cons smv1310 .nil), smv1312),
  ((.cons smv1316 .nil), smv1312),
  ((.cons smv1320 .nil), smv206)]
theorem smranRi55 : ranAll Tryz.prog ov0 206 smRi55 = true := by decide +kernel
end Go.Sy
