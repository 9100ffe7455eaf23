/- Runs of dowel/solid.Penetrate. -/
import Derived.Test.YthdjljdooekbmaaGreatDoorSmO1
namespace Go.Sy
open Go.RowKit Go.Proofs
set_option linter.unusedVariables false
set_option maxRecDepth 1000000
set_option maxHeartbeats 0
noncomputable def smPe60 : List (AV × AV) := [
  ((.cons smv1339 (.cons smv1047 .nil)), (.bool false)),
  ((.cons smv1339 (.cons smv1051 .nil)), (.bool false)),
  ((.cons smv1343 (.cons smv1047 .nil)), (.bool false)),
  ((.cons smv1343 (.cons smv1051 .nil)), (.bool false)),
  ((.cons smv1343 (.cons smv1339 .nil)), (.bool false)),
  ((.cons smv1347 (.cons smv1047 .nil)), (.bool false)),
  ((.cons smv1347 (.cons smv1051 .nil)), (.bool false)),
  ((.cons smv1347 (.cons smv1055 .nil)), (.bool false))]
theorem smranPe60 : ranAll Tryz.prog smov2 173 smPe60 = true := by decide +kernel
noncomputable def smPe61 : List (AV × AV) := [
  ((.cons smv1353 (.cons smv1047 .nil)), (.bool false)),
  ((.cons smv1353 (.cons smv1051 .nil)), (.bool false)),
  ((.cons smv1353 (.cons smv1055 .nil)), (.bool false)),
  ((.cons smv1353 (.cons smv1347 .nil)), (.bool false)),
  ((.cons smv1357 (.cons smv1047 .nil)), (.bool false)),
  ((.cons smv1357 (.cons smv1051 .nil)), (.bool false)),
  ((.cons smv1357 (.cons smv1055 .nil)), (.bool false)),
  ((.cons smv1357 (.cons smv1347 .nil)), (.bool false))]
theorem smranPe61 : ranAll Tryz.prog smov2 173 smPe61 = true := by decide +kernel
noncomputable def smPe62 : List (AV × AV) := [
  ((.cons smv1357 (.cons smv1353 .nil)), (.bool false)),
  ((.cons smv475 (.cons smv1367 .nil)), (.bool false)),
  ((.cons smv1371 (.cons smv1367 .nil)), (.bool false)),
  ((.cons smv1371 (.cons smv475 .nil)), (.bool false)),
  ((.cons smv1375 (.cons smv1367 .nil)), (.bool false)),
  ((.cons smv1375 (.cons smv475 .nil)), (.bool false)),
  ((.cons smv1375 (.cons smv1371 .nil)), (.bool false)),
  ((.cons smv1379 (.cons smv1367 .nil)), (.bool false))]
theorem smranPe62 : ranAll Tryz.prog smov2 173 smPe62 = true := by decide +kernel
noncomputable def smPe63 : List (AV × AV) := [
  ((.cons smv1379 (.cons smv475 .nil)), (.bool false)),
  ((.cons smv1379 (.cons smv1371 .nil)), (.bool false)),
  ((.cons smv1379 (.cons smv1375 .nil)), (.bool false)),
  ((.cons smv1387 (.cons smv1383 .nil)), (.bool false)),
  ((.cons smv1391 (.cons smv177 .nil)), (.bool false)),
  ((.cons smv1395 (.cons smv177 .nil)), (.bool false)),
  ((.cons smv1395 (.cons smv1391 .nil)), (.bool false)),
  ((.cons smv367 (.cons smv177 .nil)), (.bool false))]
theorem smranPe63 : ranAll Tryz.prog smov2 173 smPe63 = true := by decide +kernel
noncomputable def smPe64 : List (AV × AV) := [
  ((.cons smv367 (.cons smv1391 .nil)), (.bool false)),
  ((.cons smv367 (.cons smv1395 .nil)), (.bool false)),
  ((.cons smv809 (.cons smv177 .nil)), (.bool false)),
  ((.cons smv809 (.cons smv1391 .nil)), (.bool false)),
  ((.cons smv809 (.cons smv1395 .nil)), (.bool false)),
  ((.cons smv1399 (.cons smv859 .nil)), (.bool false)),
  ((.cons smv1403 (.cons smv859 .nil)), (.bool false)),
  ((.cons smv1403 (.cons smv1399 .nil)), (.bool false))]
theorem smranPe64 : ranAll Tryz.prog smov2 173 smPe64 = true := by decide +kernel
noncomputable def smPe65 : List (AV × AV) := [
  ((.cons smv581 (.cons smv859 .nil)), (.bool false)),
  ((.cons smv581 (.cons smv1399 .nil)), (.bool false)),
  ((.cons smv581 (.cons smv1403 .nil)), (.bool false)),
  ((.cons smv585 (.cons smv859 .nil)), (.bool false)),
  ((.cons smv585 (.cons smv1399 .nil)), (.bool false)),
  ((.cons smv585 (.cons smv1403 .nil)), (.bool false)),
  ((.cons smv1407 (.cons smv755 .nil)), (.bool false)),
  ((.cons smv1407 (.cons smv759 .nil)), (.bool false))]
theorem smranPe65 : ranAll Tryz.prog smov2 173 smPe65 = true := by decide +kernel
noncomputable def smPe66 : List (AV × AV) := [
  ((.cons smv1411 (.cons smv755 .nil)), (.bool false)),
  ((.cons smv1411 (.cons smv759 .nil)), (.bool false)),
  ((.cons smv1411 (.cons smv1407 .nil)), (.bool false)),
  ((.cons smv1415 (.cons smv695 .nil)), (.bool false)),
  ((.cons smv1415 (.cons smv699 .nil)), (.bool false)),
  ((.cons smv1419 (.cons smv695 .nil)), (.bool false)),
  ((.cons smv1419 (.cons smv699 .nil)), (.bool false)),
  ((.cons smv1419 (.cons smv1415 .nil)), (.bool false))]
theorem smranPe66 : ranAll Tryz.prog smov2 173 smPe66 = true := by decide +kernel
noncomputable def smPe67 : List (AV × AV) := [
  ((.cons smv1423 (.cons smv399 .nil)), (.bool false)),
  ((.cons smv1427 (.cons smv399 .nil)), (.bool false)),
  ((.cons smv1427 (.cons smv1423 .nil)), (.bool false)),
  ((.cons smv909 (.cons smv399 .nil)), (.bool false)),
  ((.cons smv909 (.cons smv1423 .nil)), (.bool false)),
  ((.cons smv909 (.cons smv1427 .nil)), (.bool false)),
  ((.cons smv1383 (.cons smv399 .nil)), (.bool false)),
  ((.cons smv1383 (.cons smv1423 .nil)), (.bool false))]
theorem smranPe67 : ranAll Tryz.prog smov2 173 smPe67 = true := by decide +kernel
noncomputable def smPe68 : List (AV × AV) := [
  ((.cons smv1383 (.cons smv1427 .nil)), (.bool false)),
  ((.cons smv1383 (.cons smv909 .nil)), (.bool false)),
  ((.cons smv1431 (.cons smv177 .nil)), (.bool false)),
  ((.cons smv1435 (.cons smv177 .nil)), (.bool false)),
  ((.cons smv1435 (.cons smv1431 .nil)), (.bool false)),
  ((.cons smv1083 (.cons smv177 .nil)), (.bool false)),
  ((.cons smv1083 (.cons smv1431 .nil)), (.bool false)),
  ((.cons smv1083 (.cons smv1435 .nil)), (.bool false))]
theorem smranPe68 : ranAll Tryz.prog smov2 173 smPe68 = true := by decide +kernel
noncomputable def smPe69 : List (AV × AV) := [
  ((.cons smv1087 (.cons smv177 .nil)), (.bool false)),
  ((.cons smv1087 (.cons smv1431 .nil)), (.bool false)),
  ((.cons smv1087 (.cons smv1435 .nil)), (.bool false)),
  ((.cons smv909 (.cons smv1367 .nil)), (.bool false)),
  ((.cons smv909 (.cons smv475 .nil)), (.bool false)),
  ((.cons smv909 (.cons smv1371 .nil)), (.bool false)),
  ((.cons smv1383 (.cons smv1367 .nil)), (.bool false)),
  ((.cons smv1383 (.cons smv475 .nil)), (.bool false))]
theorem smranPe69 : ranAll Tryz.prog smov2 173 smPe69 = true := by decide +kernel
noncomputable def smPe70 : List (AV × AV) := [
  ((.cons smv1383 (.cons smv1371 .nil)), (.bool false)),
  ((.cons smv1443 (.cons smv309 .nil)), (.bool false)),
  ((.cons smv1447 (.cons smv309 .nil)), (.bool false)),
  ((.cons smv1447 (.cons smv1443 .nil)), (.bool false)),
  ((.cons smv117 (.cons smv309 .nil)), (.bool false)),
  ((.cons smv117 (.cons smv1443 .nil)), (.bool false)),
  ((.cons smv117 (.cons smv1447 .nil)), (.bool false)),
  ((.cons smv137 (.cons smv309 .nil)), (.bool false))]
theorem smranPe70 : ranAll Tryz.prog smov2 173 smPe70 = true := by decide +kernel
noncomputable def smPe71 : List (AV × AV) := [
  ((.cons smv137 (.cons smv1443 .nil)), (.bool false)),
  ((.cons smv137 (.cons smv1447 .nil)), (.bool false)),
  ((.cons smv1451 (.cons smv177 .nil)), (.bool false)),
  ((.cons smv1455 (.cons smv177 .nil)), (.bool false)),
  ((.cons smv1455 (.cons smv1451 .nil)), (.bool false)),
  ((.cons smv1461 (.cons smv177 .nil)), (.bool false)),
  ((.cons smv1461 (.cons smv1451 .nil)), (.bool false)),
  ((.cons smv1461 (.cons smv1455 .nil)), (.bool false))]
theorem smranPe71 : ranAll Tryz.prog smov2 173 smPe71 = true := by decide +kernel
noncomputable def smPe72 : List (AV × AV) := [
  ((.cons smv1465 (.cons smv177 .nil)), (.bool false)),
  ((.cons smv1465 (.cons smv1451 .nil)), (.bool false)),
  ((.cons smv1465 (.cons smv1455 .nil)), (.bool false)),
  ((.cons smv1465 (.cons smv1461 .nil)), (.bool false)),
  ((.cons smv1473 (.cons smv755 .nil)), (.bool false)),
  ((.cons smv1473 (.cons smv759 .nil)), (.bool false)),
  ((.cons smv1473 (.cons smv763 .nil)), (.bool false)),
  ((.cons smv1479 (.cons smv755 .nil)), (.bool false))]
theorem smranPe72 : ranAll Tryz.prog smov2 173 smPe72 = true := by decide +kernel
noncomputable def smPe73 : List (AV × AV) := [
  ((.cons smv1479 (.cons smv759 .nil)), (.bool false)),
  ((.cons smv1479 (.cons smv763 .nil)), (.bool false)),
  ((.cons smv1479 (.cons smv1473 .nil)), (.bool false)),
  ((.cons smv1483 (.cons smv755 .nil)), (.bool false)),
  ((.cons smv1483 (.cons smv759 .nil)), (.bool false)),
  ((.cons smv1483 (.cons smv763 .nil)), (.bool false)),
  ((.cons smv1483 (.cons smv1473 .nil)), (.bool false)),
  ((.cons smv1483 (.cons smv1479 .nil)), (.bool false))]
theorem smranPe73 : ranAll Tryz.prog smov2 173 smPe73 = true := by decide +kernel
end Go.Sy
