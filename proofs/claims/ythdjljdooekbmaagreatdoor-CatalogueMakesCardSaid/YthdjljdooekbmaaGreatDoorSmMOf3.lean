/- Runs of dowel/cell.Of. -/
import Derived.Test.YthdjljdooekbmaaGreatDoorSmO0
namespace Go.Sy
open Go.RowKit Go.Proofs
set_option linter.unusedVariables false
set_option maxRecDepth 1000000
set_option maxHeartbeats 0
noncomputable def smOf30 : List (AV × AV) := [
  ((.cons (.agg (.cons smv602 .nil)) .nil), (.tup (.cons smv605 (.cons (.int .i64 0) .nil)))),
  ((.cons (.agg (.cons smv606 .nil)) .nil), (.tup (.cons smv611 (.cons (.int .i64 0) .nil)))),
  ((.cons (.agg (.cons smv612 .nil)) .nil), (.tup (.cons smv615 (.cons (.int .i64 0) .nil)))),
  ((.cons (.agg (.cons smv616 .nil)) .nil), (.tup (.cons smv619 (.cons (.int .i64 0) .nil))))]
theorem smranOf30 : ranAll Tryz.prog smov1 170 smOf30 = true := by decide +kernel
noncomputable def smOf31 : List (AV × AV) := [
  ((.cons (.agg (.cons smv620 .nil)) .nil), (.tup (.cons smv623 (.cons (.int .i64 0) .nil)))),
  ((.cons (.agg (.cons smv624 .nil)) .nil), (.tup (.cons smv627 (.cons (.int .i64 0) .nil)))),
  ((.cons (.agg (.cons smv628 .nil)) .nil), (.tup (.cons smv631 (.cons (.int .i64 0) .nil)))),
  ((.cons (.agg (.cons smv632 .nil)) .nil), (.tup (.cons smv635 (.cons (.int .i64 0) .nil))))]
theorem smranOf31 : ranAll Tryz.prog smov1 170 smOf31 = true := by decide +kernel
noncomputable def smOf32 : List (AV × AV) := [
  ((.cons (.agg (.cons smv636 .nil)) .nil), (.tup (.cons smv639 (.cons (.int .i64 0) .nil)))),
  ((.cons (.agg (.cons smv642 .nil)) .nil), (.tup (.cons smv645 (.cons (.int .i64 0) .nil)))),
  ((.cons (.agg (.cons smv646 .nil)) .nil), (.tup (.cons smv649 (.cons (.int .i64 0) .nil)))),
  ((.cons (.agg (.cons smv650 .nil)) .nil), (.tup (.cons smv653 (.cons (.int .i64 0) .nil))))]
theorem smranOf32 : ranAll Tryz.prog smov1 170 smOf32 = true := by decide +kernel
noncomputable def smOf33 : List (AV × AV) := [
  ((.cons (.agg (.cons smv654 .nil)) .nil), (.tup (.cons smv659 (.cons (.int .i64 0) .nil)))),
  ((.cons (.agg (.cons smv660 .nil)) .nil), (.tup (.cons smv663 (.cons (.int .i64 0) .nil)))),
  ((.cons (.agg (.cons smv664 .nil)) .nil), (.tup (.cons smv669 (.cons (.int .i64 0) .nil)))),
  ((.cons (.agg (.cons smv670 .nil)) .nil), (.tup (.cons smv673 (.cons (.int .i64 0) .nil))))]
theorem smranOf33 : ranAll Tryz.prog smov1 170 smOf33 = true := by decide +kernel
noncomputable def smOf34 : List (AV × AV) := [
  ((.cons (.agg (.cons smv674 .nil)) .nil), (.tup (.cons smv679 (.cons (.int .i64 0) .nil)))),
  ((.cons (.agg (.cons smv680 .nil)) .nil), (.tup (.cons smv683 (.cons (.int .i64 0) .nil)))),
  ((.cons (.agg (.cons smv684 .nil)) .nil), (.tup (.cons smv687 (.cons (.int .i64 0) .nil)))),
  ((.cons (.agg (.cons smv688 .nil)) .nil), (.tup (.cons smv691 (.cons (.int .i64 0) .nil))))]
theorem smranOf34 : ranAll Tryz.prog smov1 170 smOf34 = true := by decide +kernel
noncomputable def smOf35 : List (AV × AV) := [
  ((.cons (.agg (.cons smv692 .nil)) .nil), (.tup (.cons smv695 (.cons (.int .i64 0) .nil)))),
  ((.cons (.agg (.cons smv696 .nil)) .nil), (.tup (.cons smv699 (.cons (.int .i64 0) .nil)))),
  ((.cons (.agg (.cons smv700 .nil)) .nil), (.tup (.cons smv703 (.cons (.int .i64 0) .nil)))),
  ((.cons (.agg (.cons smv704 .nil)) .nil), (.tup (.cons smv707 (.cons (.int .i64 0) .nil))))]
theorem smranOf35 : ranAll Tryz.prog smov1 170 smOf35 = true := by decide +kernel
noncomputable def smOf36 : List (AV × AV) := [
  ((.cons (.agg (.cons smv708 .nil)) .nil), (.tup (.cons smv713 (.cons (.int .i64 0) .nil)))),
  ((.cons (.agg (.cons smv714 .nil)) .nil), (.tup (.cons smv717 (.cons (.int .i64 0) .nil)))),
  ((.cons (.agg (.cons smv718 .nil)) .nil), (.tup (.cons smv721 (.cons (.int .i64 0) .nil)))),
  ((.cons (.agg (.cons smv722 .nil)) .nil), (.tup (.cons smv725 (.cons (.int .i64 0) .nil))))]
theorem smranOf36 : ranAll Tryz.prog smov1 170 smOf36 = true := by decide +kernel
noncomputable def smOf37 : List (AV × AV) := [
  ((.cons (.agg (.cons smv726 .nil)) .nil), (.tup (.cons smv729 (.cons (.int .i64 0) .nil)))),
  ((.cons (.agg (.cons smv730 .nil)) .nil), (.tup (.cons smv733 (.cons (.int .i64 0) .nil)))),
  ((.cons (.agg (.cons smv734 .nil)) .nil), (.tup (.cons smv739 (.cons (.int .i64 0) .nil)))),
  ((.cons (.agg (.cons smv740 .nil)) .nil), (.tup (.cons smv743 (.cons (.int .i64 0) .nil))))]
theorem smranOf37 : ranAll Tryz.prog smov1 170 smOf37 = true := by decide +kernel
noncomputable def smOf38 : List (AV × AV) := [
  ((.cons (.agg (.cons smv744 .nil)) .nil), (.tup (.cons smv747 (.cons (.int .i64 0) .nil)))),
  ((.cons (.agg (.cons smv748 .nil)) .nil), (.tup (.cons smv751 (.cons (.int .i64 0) .nil)))),
  ((.cons (.agg (.cons smv752 .nil)) .nil), (.tup (.cons smv755 (.cons (.int .i64 0) .nil)))),
  ((.cons (.agg (.cons smv756 .nil)) .nil), (.tup (.cons smv759 (.cons (.int .i64 0) .nil))))]
theorem smranOf38 : ranAll Tryz.prog smov1 170 smOf38 = true := by decide +kernel
noncomputable def smOf39 : List (AV × AV) := [
  ((.cons (.agg (.cons smv760 .nil)) .nil), (.tup (.cons smv763 (.cons (.int .i64 0) .nil)))),
  ((.cons (.agg (.cons smv764 .nil)) .nil), (.tup (.cons smv767 (.cons (.int .i64 0) .nil)))),
  ((.cons (.agg (.cons smv768 .nil)) .nil), (.tup (.cons smv771 (.cons (.int .i64 0) .nil)))),
  ((.cons (.agg (.cons smv772 .nil)) .nil), (.tup (.cons smv777 (.cons (.int .i64 0) .nil))))]
theorem smranOf39 : ranAll Tryz.prog smov1 170 smOf39 = true := by decide +kernel
end Go.Sy
