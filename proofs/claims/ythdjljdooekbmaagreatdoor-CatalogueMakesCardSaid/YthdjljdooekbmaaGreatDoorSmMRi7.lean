/- Runs of dowel/cell.rings. -/
import Derived.Test.YthdjljdooekbmaaGreatDoorSmV1
namespace Go.Sy
open Go.RowKit Go.Proofs
set_option linter.unusedVariables false
set_option maxRecDepth 1000000
set_option maxHeartbeats 0
noncomputable def smRi56 : List (AV × AV) := [
  ((.cons smv1324 .nil), smv412),
  ((.cons smv1328 .nil), smv482),
  ((.cons smv1332 .nil), smv482),
  ((.cons smv1336 .nil), smv364),
  ((.cons smv1340 .nil), smv364)]
theorem smranRi56 : ranAll Tryz.prog ov0 206 smRi56 = true := by decide +kernel
noncomputable def smRi57 : List (AV × AV) := [
  ((.cons smv1344 .nil), smv190),
  ((.cons smv1348 .nil), smv1350),
  ((.cons smv1354 .nil), smv1350),
  ((.cons smv1358 .nil), smv1062),
  ((.cons smv1362 .nil), smv1364)]
theorem smranRi57 : ranAll Tryz.prog ov0 206 smRi57 = true := by decide +kernel
noncomputable def smRi58 : List (AV × AV) := [
  ((.cons smv1368 .nil), smv402),
  ((.cons smv1372 .nil), smv846),
  ((.cons smv1376 .nil), smv846),
  ((.cons smv1380 .nil), smv906),
  ((.cons smv1384 .nil), smv912)]
theorem smranRi58 : ranAll Tryz.prog ov0 206 smRi58 = true := by decide +kernel
noncomputable def smRi59 : List (AV × AV) := [
  ((.cons smv1388 .nil), smv1198),
  ((.cons smv1392 .nil), smv1198),
  ((.cons smv1396 .nil), smv512),
  ((.cons smv1400 .nil), smv512),
  ((.cons smv1404 .nil), smv906)]
theorem smranRi59 : ranAll Tryz.prog ov0 206 smRi59 = true := by decide +kernel
noncomputable def smRi60 : List (AV × AV) := [
  ((.cons smv1408 .nil), smv906),
  ((.cons smv1412 .nil), smv112),
  ((.cons smv1416 .nil), smv112),
  ((.cons smv1420 .nil), smv978),
  ((.cons smv1424 .nil), smv978)]
theorem smranRi60 : ranAll Tryz.prog ov0 206 smRi60 = true := by decide +kernel
noncomputable def smRi61 : List (AV × AV) := [
  ((.cons smv1428 .nil), smv798),
  ((.cons smv1432 .nil), smv798),
  ((.cons smv1436 .nil), smv1364),
  ((.cons smv1440 .nil), smv1276),
  ((.cons smv1444 .nil), smv1276)]
theorem smranRi61 : ranAll Tryz.prog ov0 206 smRi61 = true := by decide +kernel
noncomputable def smRi62 : List (AV × AV) := [
  ((.cons smv1448 .nil), smv1072),
  ((.cons smv1452 .nil), smv1072),
  ((.cons smv1456 .nil), smv1458),
  ((.cons smv1462 .nil), smv1458),
  ((.cons smv1466 .nil), smv190)]
theorem smranRi62 : ranAll Tryz.prog ov0 206 smRi62 = true := by decide +kernel
noncomputable def smRi63 : List (AV × AV) := [
  ((.cons smv1470 .nil), smv412),
  ((.cons smv1474 .nil), smv1476),
  ((.cons smv1480 .nil), smv1476),
  ((.cons smv1484 .nil), smv774),
  ((.cons smv1490 .nil), smv206)]
theorem smranRi63 : ranAll Tryz.prog ov0 206 smRi63 = true := by decide +kernel
end Go.Sy
