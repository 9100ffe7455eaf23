/- Runs of dowel/cell.Of. -/
import Derived.Test.YthdjljdooekbmaaGreatDoorSmO0
namespace Go.Sy
open Go.RowKit Go.Proofs
set_option linter.unusedVariables false
set_option maxRecDepth 1000000
set_option maxHeartbeats 0
noncomputable def smOf70 : List (AV × AV) := [
  ((.cons (.agg (.cons smv1324 .nil)) .nil), (.tup (.cons smv1327 (.cons (.int .i64 0) .nil)))),
  ((.cons (.agg (.cons smv1328 .nil)) .nil), (.tup (.cons smv1331 (.cons (.int .i64 0) .nil)))),
  ((.cons (.agg (.cons smv1332 .nil)) .nil), (.tup (.cons smv1335 (.cons (.int .i64 0) .nil)))),
  ((.cons (.agg (.cons smv1336 .nil)) .nil), (.tup (.cons smv1339 (.cons (.int .i64 0) .nil))))]
theorem smranOf70 : ranAll Tryz.prog smov1 170 smOf70 = true := by decide +kernel
noncomputable def smOf71 : List (AV × AV) := [
  ((.cons (.agg (.cons smv1340 .nil)) .nil), (.tup (.cons smv1343 (.cons (.int .i64 0) .nil)))),
  ((.cons (.agg (.cons smv1344 .nil)) .nil), (.tup (.cons smv1347 (.cons (.int .i64 0) .nil)))),
  ((.cons (.agg (.cons smv1348 .nil)) .nil), (.tup (.cons smv1353 (.cons (.int .i64 0) .nil)))),
  ((.cons (.agg (.cons smv1354 .nil)) .nil), (.tup (.cons smv1357 (.cons (.int .i64 0) .nil))))]
theorem smranOf71 : ranAll Tryz.prog smov1 170 smOf71 = true := by decide +kernel
noncomputable def smOf72 : List (AV × AV) := [
  ((.cons (.agg (.cons smv1358 .nil)) .nil), (.tup (.cons smv1361 (.cons (.int .i64 0) .nil)))),
  ((.cons (.agg (.cons smv1362 .nil)) .nil), (.tup (.cons smv1367 (.cons (.int .i64 0) .nil)))),
  ((.cons (.agg (.cons smv1368 .nil)) .nil), (.tup (.cons smv1371 (.cons (.int .i64 0) .nil)))),
  ((.cons (.agg (.cons smv1372 .nil)) .nil), (.tup (.cons smv1375 (.cons (.int .i64 0) .nil))))]
theorem smranOf72 : ranAll Tryz.prog smov1 170 smOf72 = true := by decide +kernel
noncomputable def smOf73 : List (AV × AV) := [
  ((.cons (.agg (.cons smv1376 .nil)) .nil), (.tup (.cons smv1379 (.cons (.int .i64 0) .nil)))),
  ((.cons (.agg (.cons smv1380 .nil)) .nil), (.tup (.cons smv1383 (.cons (.int .i64 0) .nil)))),
  ((.cons (.agg (.cons smv1384 .nil)) .nil), (.tup (.cons smv1387 (.cons (.int .i64 0) .nil)))),
  ((.cons (.agg (.cons smv1388 .nil)) .nil), (.tup (.cons smv1391 (.cons (.int .i64 0) .nil))))]
theorem smranOf73 : ranAll Tryz.prog smov1 170 smOf73 = true := by decide +kernel
noncomputable def smOf74 : List (AV × AV) := [
  ((.cons (.agg (.cons smv1392 .nil)) .nil), (.tup (.cons smv1395 (.cons (.int .i64 0) .nil)))),
  ((.cons (.agg (.cons smv1396 .nil)) .nil), (.tup (.cons smv1399 (.cons (.int .i64 0) .nil)))),
  ((.cons (.agg (.cons smv1400 .nil)) .nil), (.tup (.cons smv1403 (.cons (.int .i64 0) .nil)))),
  ((.cons (.agg (.cons smv1404 .nil)) .nil), (.tup (.cons smv1407 (.cons (.int .i64 0) .nil))))]
theorem smranOf74 : ranAll Tryz.prog smov1 170 smOf74 = true := by decide +kernel
noncomputable def smOf75 : List (AV × AV) := [
  ((.cons (.agg (.cons smv1408 .nil)) .nil), (.tup (.cons smv1411 (.cons (.int .i64 0) .nil)))),
  ((.cons (.agg (.cons smv1412 .nil)) .nil), (.tup (.cons smv1415 (.cons (.int .i64 0) .nil)))),
  ((.cons (.agg (.cons smv1416 .nil)) .nil), (.tup (.cons smv1419 (.cons (.int .i64 0) .nil)))),
  ((.cons (.agg (.cons smv1420 .nil)) .nil), (.tup (.cons smv1423 (.cons (.int .i64 0) .nil))))]
theorem smranOf75 : ranAll Tryz.prog smov1 170 smOf75 = true := by decide +kernel
noncomputable def smOf76 : List (AV × AV) := [
  ((.cons (.agg (.cons smv1424 .nil)) .nil), (.tup (.cons smv1427 (.cons (.int .i64 0) .nil)))),
  ((.cons (.agg (.cons smv1428 .nil)) .nil), (.tup (.cons smv1431 (.cons (.int .i64 0) .nil)))),
  ((.cons (.agg (.cons smv1432 .nil)) .nil), (.tup (.cons smv1435 (.cons (.int .i64 0) .nil)))),
  ((.cons (.agg (.cons smv1436 .nil)) .nil), (.tup (.cons smv1439 (.cons (.int .i64 0) .nil))))]
theorem smranOf76 : ranAll Tryz.prog smov1 170 smOf76 = true := by decide +kernel
noncomputable def smOf77 : List (AV × AV) := [
  ((.cons (.agg (.cons smv1440 .nil)) .nil), (.tup (.cons smv1443 (.cons (.int .i64 0) .nil)))),
  ((.cons (.agg (.cons smv1444 .nil)) .nil), (.tup (.cons smv1447 (.cons (.int .i64 0) .nil)))),
  ((.cons (.agg (.cons smv1448 .nil)) .nil), (.tup (.cons smv1451 (.cons (.int .i64 0) .nil)))),
  ((.cons (.agg (.cons smv1452 .nil)) .nil), (.tup (.cons smv1455 (.cons (.int .i64 0) .nil))))]
theorem smranOf77 : ranAll Tryz.prog smov1 170 smOf77 = true := by decide +kernel
noncomputable def smOf78 : List (AV × AV) := [
  ((.cons (.agg (.cons smv1456 .nil)) .nil), (.tup (.cons smv1461 (.cons (.int .i64 0) .nil)))),
  ((.cons (.agg (.cons smv1462 .nil)) .nil), (.tup (.cons smv1465 (.cons (.int .i64 0) .nil)))),
  ((.cons (.agg (.cons smv1466 .nil)) .nil), (.tup (.cons smv1469 (.cons (.int .i64 0) .nil)))),
  ((.cons (.agg (.cons smv1470 .nil)) .nil), (.tup (.cons smv1473 (.cons (.int .i64 0) .nil))))]
theorem smranOf78 : ranAll Tryz.prog smov1 170 smOf78 = true := by decide +kernel
noncomputable def smOf79 : List (AV × AV) := [
  ((.cons (.agg (.cons smv1474 .nil)) .nil), (.tup (.cons smv1479 (.cons (.int .i64 0) .nil)))),
  ((.cons (.agg (.cons smv1480 .nil)) .nil), (.tup (.cons smv1483 (.cons (.int .i64 0) .nil)))),
  ((.cons (.agg (.cons smv1484 .nil)) .nil), (.tup (.cons smv1487 (.cons (.int .i64 0) .nil)))),
  ((.cons (.agg (.cons smv1490 .nil)) .nil), (.tup (.cons smv1493 (.cons (.int .i64 0) .nil))))]
theorem smranOf79 : ranAll Tryz.prog smov1 170 smOf79 = true := by decide +kernel
end Go.Sy
