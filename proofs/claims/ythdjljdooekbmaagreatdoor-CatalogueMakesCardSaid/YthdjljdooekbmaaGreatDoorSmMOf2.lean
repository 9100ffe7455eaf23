/- Runs of dowel/cell.Of. -/
import Derived.Test.YthdjljdooekbmaaGreatDoorSmO0
namespace Go.Sy
open Go.RowKit Go.Proofs
set_option linter.unusedVariables false
set_option maxRecDepth 1000000
set_option maxHeartbeats 0
noncomputable def smOf20 : List (AV × AV) := [
  ((.cons (.agg (.cons smv410 .nil)) .nil), (.tup (.cons smv415 (.cons (.int .i64 0) .nil)))),
  ((.cons (.agg (.cons smv416 .nil)) .nil), (.tup (.cons smv419 (.cons (.int .i64 0) .nil)))),
  ((.cons (.agg (.cons smv420 .nil)) .nil), (.tup (.cons smv423 (.cons (.int .i64 0) .nil)))),
  ((.cons (.agg (.cons smv426 .nil)) .nil), (.tup (.cons smv431 (.cons (.int .i64 0) .nil))))]
theorem smranOf20 : ranAll Tryz.prog smov1 170 smOf20 = true := by decide +kernel
noncomputable def smOf21 : List (AV × AV) := [
  ((.cons (.agg (.cons smv432 .nil)) .nil), (.tup (.cons smv435 (.cons (.int .i64 0) .nil)))),
  ((.cons (.agg (.cons smv436 .nil)) .nil), (.tup (.cons smv441 (.cons (.int .i64 0) .nil)))),
  ((.cons (.agg (.cons smv442 .nil)) .nil), (.tup (.cons smv445 (.cons (.int .i64 0) .nil)))),
  ((.cons (.agg (.cons smv446 .nil)) .nil), (.tup (.cons smv451 (.cons (.int .i64 0) .nil))))]
theorem smranOf21 : ranAll Tryz.prog smov1 170 smOf21 = true := by decide +kernel
noncomputable def smOf22 : List (AV × AV) := [
  ((.cons (.agg (.cons smv452 .nil)) .nil), (.tup (.cons smv455 (.cons (.int .i64 0) .nil)))),
  ((.cons (.agg (.cons smv456 .nil)) .nil), (.tup (.cons smv459 (.cons (.int .i64 0) .nil)))),
  ((.cons (.agg (.cons smv460 .nil)) .nil), (.tup (.cons smv463 (.cons (.int .i64 0) .nil)))),
  ((.cons (.agg (.cons smv466 .nil)) .nil), (.tup (.cons smv471 (.cons (.int .i64 0) .nil))))]
theorem smranOf22 : ranAll Tryz.prog smov1 170 smOf22 = true := by decide +kernel
noncomputable def smOf23 : List (AV × AV) := [
  ((.cons (.agg (.cons smv472 .nil)) .nil), (.tup (.cons smv475 (.cons (.int .i64 0) .nil)))),
  ((.cons (.agg (.cons smv476 .nil)) .nil), (.tup (.cons smv479 (.cons (.int .i64 0) .nil)))),
  ((.cons (.agg (.cons smv480 .nil)) .nil), (.tup (.cons smv485 (.cons (.int .i64 0) .nil)))),
  ((.cons (.agg (.cons smv486 .nil)) .nil), (.tup (.cons smv489 (.cons (.int .i64 0) .nil))))]
theorem smranOf23 : ranAll Tryz.prog smov1 170 smOf23 = true := by decide +kernel
noncomputable def smOf24 : List (AV × AV) := [
  ((.cons (.agg (.cons smv490 .nil)) .nil), (.tup (.cons smv493 (.cons (.int .i64 0) .nil)))),
  ((.cons (.agg (.cons smv494 .nil)) .nil), (.tup (.cons smv497 (.cons (.int .i64 0) .nil)))),
  ((.cons (.agg (.cons smv502 .nil)) .nil), (.tup (.cons smv505 (.cons (.int .i64 0) .nil)))),
  ((.cons (.agg (.cons smv506 .nil)) .nil), (.tup (.cons smv509 (.cons (.int .i64 0) .nil))))]
theorem smranOf24 : ranAll Tryz.prog smov1 170 smOf24 = true := by decide +kernel
noncomputable def smOf25 : List (AV × AV) := [
  ((.cons (.agg (.cons smv510 .nil)) .nil), (.tup (.cons smv515 (.cons (.int .i64 0) .nil)))),
  ((.cons (.agg (.cons smv516 .nil)) .nil), (.tup (.cons smv521 (.cons (.int .i64 0) .nil)))),
  ((.cons (.agg (.cons smv522 .nil)) .nil), (.tup (.cons smv525 (.cons (.int .i64 0) .nil)))),
  ((.cons (.agg (.cons smv526 .nil)) .nil), (.tup (.cons smv529 (.cons (.int .i64 0) .nil))))]
theorem smranOf25 : ranAll Tryz.prog smov1 170 smOf25 = true := by decide +kernel
noncomputable def smOf26 : List (AV × AV) := [
  ((.cons (.agg (.cons smv530 .nil)) .nil), (.tup (.cons smv533 (.cons (.int .i64 0) .nil)))),
  ((.cons (.agg (.cons smv534 .nil)) .nil), (.tup (.cons smv537 (.cons (.int .i64 0) .nil)))),
  ((.cons (.agg (.cons smv538 .nil)) .nil), (.tup (.cons smv541 (.cons (.int .i64 0) .nil)))),
  ((.cons (.agg (.cons smv542 .nil)) .nil), (.tup (.cons smv547 (.cons (.int .i64 0) .nil))))]
theorem smranOf26 : ranAll Tryz.prog smov1 170 smOf26 = true := by decide +kernel
noncomputable def smOf27 : List (AV × AV) := [
  ((.cons (.agg (.cons smv548 .nil)) .nil), (.tup (.cons smv551 (.cons (.int .i64 0) .nil)))),
  ((.cons (.agg (.cons smv552 .nil)) .nil), (.tup (.cons smv557 (.cons (.int .i64 0) .nil)))),
  ((.cons (.agg (.cons smv558 .nil)) .nil), (.tup (.cons smv561 (.cons (.int .i64 0) .nil)))),
  ((.cons (.agg (.cons smv562 .nil)) .nil), (.tup (.cons smv565 (.cons (.int .i64 0) .nil))))]
theorem smranOf27 : ranAll Tryz.prog smov1 170 smOf27 = true := by decide +kernel
noncomputable def smOf28 : List (AV × AV) := [
  ((.cons (.agg (.cons smv568 .nil)) .nil), (.tup (.cons smv573 (.cons (.int .i64 0) .nil)))),
  ((.cons (.agg (.cons smv574 .nil)) .nil), (.tup (.cons smv577 (.cons (.int .i64 0) .nil)))),
  ((.cons (.agg (.cons smv578 .nil)) .nil), (.tup (.cons smv581 (.cons (.int .i64 0) .nil)))),
  ((.cons (.agg (.cons smv582 .nil)) .nil), (.tup (.cons smv585 (.cons (.int .i64 0) .nil))))]
theorem smranOf28 : ranAll Tryz.prog smov1 170 smOf28 = true := by decide +kernel
noncomputable def smOf29 : List (AV × AV) := [
  ((.cons (.agg (.cons smv586 .nil)) .nil), (.tup (.cons smv589 (.cons (.int .i64 0) .nil)))),
  ((.cons (.agg (.cons smv590 .nil)) .nil), (.tup (.cons smv593 (.cons (.int .i64 0) .nil)))),
  ((.cons (.agg (.cons smv594 .nil)) .nil), (.tup (.cons smv597 (.cons (.int .i64 0) .nil)))),
  ((.cons (.agg (.cons smv598 .nil)) .nil), (.tup (.cons smv601 (.cons (.int .i64 0) .nil))))]
theorem smranOf29 : ranAll Tryz.prog smov1 170 smOf29 = true := by decide +kernel
end Go.Sy
