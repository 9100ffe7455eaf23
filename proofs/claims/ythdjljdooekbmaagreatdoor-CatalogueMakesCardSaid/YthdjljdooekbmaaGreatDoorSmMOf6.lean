/- Runs of dowel/cell.Of. -/
import Derived.Test.YthdjljdooekbmaaGreatDoorSmO0
namespace Go.Sy
open Go.RowKit Go.Proofs
set_option linter.unusedVariables false
set_option maxRecDepth 1000000
set_option maxHeartbeats 0
noncomputable def smOf60 : List (AV × AV) := [
  ((.cons (.agg (.cons smv1140 .nil)) .nil), (.tup (.cons smv1145 (.cons (.int .i64 0) .nil)))),
  ((.cons (.agg (.cons smv1146 .nil)) .nil), (.tup (.cons smv1149 (.cons (.int .i64 0) .nil)))),
  ((.cons (.agg (.cons smv1154 .nil)) .nil), (.tup (.cons smv1157 (.cons (.int .i64 0) .nil)))),
  ((.cons (.agg (.cons smv1158 .nil)) .nil), (.tup (.cons smv1161 (.cons (.int .i64 0) .nil))))]
theorem smranOf60 : ranAll Tryz.prog smov1 170 smOf60 = true := by decide +kernel
noncomputable def smOf61 : List (AV × AV) := [
  ((.cons (.agg (.cons smv1162 .nil)) .nil), (.tup (.cons smv1165 (.cons (.int .i64 0) .nil)))),
  ((.cons (.agg (.cons smv1166 .nil)) .nil), (.tup (.cons smv1169 (.cons (.int .i64 0) .nil)))),
  ((.cons (.agg (.cons smv1170 .nil)) .nil), (.tup (.cons smv1173 (.cons (.int .i64 0) .nil)))),
  ((.cons (.agg (.cons smv1174 .nil)) .nil), (.tup (.cons smv1179 (.cons (.int .i64 0) .nil))))]
theorem smranOf61 : ranAll Tryz.prog smov1 170 smOf61 = true := by decide +kernel
noncomputable def smOf62 : List (AV × AV) := [
  ((.cons (.agg (.cons smv1180 .nil)) .nil), (.tup (.cons smv1183 (.cons (.int .i64 0) .nil)))),
  ((.cons (.agg (.cons smv1184 .nil)) .nil), (.tup (.cons smv1187 (.cons (.int .i64 0) .nil)))),
  ((.cons (.agg (.cons smv1188 .nil)) .nil), (.tup (.cons smv1191 (.cons (.int .i64 0) .nil)))),
  ((.cons (.agg (.cons smv1192 .nil)) .nil), (.tup (.cons smv1195 (.cons (.int .i64 0) .nil))))]
theorem smranOf62 : ranAll Tryz.prog smov1 170 smOf62 = true := by decide +kernel
noncomputable def smOf63 : List (AV × AV) := [
  ((.cons (.agg (.cons smv1196 .nil)) .nil), (.tup (.cons smv1201 (.cons (.int .i64 0) .nil)))),
  ((.cons (.agg (.cons smv1202 .nil)) .nil), (.tup (.cons smv1205 (.cons (.int .i64 0) .nil)))),
  ((.cons (.agg (.cons smv1206 .nil)) .nil), (.tup (.cons smv1209 (.cons (.int .i64 0) .nil)))),
  ((.cons (.agg (.cons smv1210 .nil)) .nil), (.tup (.cons smv1215 (.cons (.int .i64 0) .nil))))]
theorem smranOf63 : ranAll Tryz.prog smov1 170 smOf63 = true := by decide +kernel
noncomputable def smOf64 : List (AV × AV) := [
  ((.cons (.agg (.cons smv1216 .nil)) .nil), (.tup (.cons smv1221 (.cons (.int .i64 0) .nil)))),
  ((.cons (.agg (.cons smv1222 .nil)) .nil), (.tup (.cons smv1225 (.cons (.int .i64 0) .nil)))),
  ((.cons (.agg (.cons smv1226 .nil)) .nil), (.tup (.cons smv1231 (.cons (.int .i64 0) .nil)))),
  ((.cons (.agg (.cons smv1232 .nil)) .nil), (.tup (.cons smv1235 (.cons (.int .i64 0) .nil))))]
theorem smranOf64 : ranAll Tryz.prog smov1 170 smOf64 = true := by decide +kernel
noncomputable def smOf65 : List (AV × AV) := [
  ((.cons (.agg (.cons smv1236 .nil)) .nil), (.tup (.cons smv1239 (.cons (.int .i64 0) .nil)))),
  ((.cons (.agg (.cons smv1240 .nil)) .nil), (.tup (.cons smv1243 (.cons (.int .i64 0) .nil)))),
  ((.cons (.agg (.cons smv1244 .nil)) .nil), (.tup (.cons smv1247 (.cons (.int .i64 0) .nil)))),
  ((.cons (.agg (.cons smv1248 .nil)) .nil), (.tup (.cons smv1251 (.cons (.int .i64 0) .nil))))]
theorem smranOf65 : ranAll Tryz.prog smov1 170 smOf65 = true := by decide +kernel
noncomputable def smOf66 : List (AV × AV) := [
  ((.cons (.agg (.cons smv1252 .nil)) .nil), (.tup (.cons smv1255 (.cons (.int .i64 0) .nil)))),
  ((.cons (.agg (.cons smv1256 .nil)) .nil), (.tup (.cons smv1259 (.cons (.int .i64 0) .nil)))),
  ((.cons (.agg (.cons smv1262 .nil)) .nil), (.tup (.cons smv1265 (.cons (.int .i64 0) .nil)))),
  ((.cons (.agg (.cons smv1266 .nil)) .nil), (.tup (.cons smv1269 (.cons (.int .i64 0) .nil))))]
theorem smranOf66 : ranAll Tryz.prog smov1 170 smOf66 = true := by decide +kernel
noncomputable def smOf67 : List (AV × AV) := [
  ((.cons (.agg (.cons smv1270 .nil)) .nil), (.tup (.cons smv1273 (.cons (.int .i64 0) .nil)))),
  ((.cons (.agg (.cons smv1274 .nil)) .nil), (.tup (.cons smv1279 (.cons (.int .i64 0) .nil)))),
  ((.cons (.agg (.cons smv1280 .nil)) .nil), (.tup (.cons smv1283 (.cons (.int .i64 0) .nil)))),
  ((.cons (.agg (.cons smv1284 .nil)) .nil), (.tup (.cons smv1287 (.cons (.int .i64 0) .nil))))]
theorem smranOf67 : ranAll Tryz.prog smov1 170 smOf67 = true := by decide +kernel
noncomputable def smOf68 : List (AV × AV) := [
  ((.cons (.agg (.cons smv1288 .nil)) .nil), (.tup (.cons smv1291 (.cons (.int .i64 0) .nil)))),
  ((.cons (.agg (.cons smv1294 .nil)) .nil), (.tup (.cons smv1297 (.cons (.int .i64 0) .nil)))),
  ((.cons (.agg (.cons smv1298 .nil)) .nil), (.tup (.cons smv1301 (.cons (.int .i64 0) .nil)))),
  ((.cons (.agg (.cons smv1302 .nil)) .nil), (.tup (.cons smv1305 (.cons (.int .i64 0) .nil))))]
theorem smranOf68 : ranAll Tryz.prog smov1 170 smOf68 = true := by decide +kernel
noncomputable def smOf69 : List (AV × AV) := [
  ((.cons (.agg (.cons smv1306 .nil)) .nil), (.tup (.cons smv1309 (.cons (.int .i64 0) .nil)))),
  ((.cons (.agg (.cons smv1310 .nil)) .nil), (.tup (.cons smv1315 (.cons (.int .i64 0) .nil)))),
  ((.cons (.agg (.cons smv1316 .nil)) .nil), (.tup (.cons smv1319 (.cons (.int .i64 0) .nil)))),
  ((.cons (.agg (.cons smv1320 .nil)) .nil), (.tup (.cons smv1323 (.cons (.int .i64 0) .nil))))]
theorem smranOf69 : ranAll Tryz.prog smov1 170 smOf69 = true := by decide +kernel
end Go.Sy
