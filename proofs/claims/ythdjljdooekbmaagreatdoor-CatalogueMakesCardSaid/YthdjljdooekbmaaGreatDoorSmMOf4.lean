/- Runs of dowel/cell.Of. -/
import Derived.Test.YthdjljdooekbmaaGreatDoorSmO0
namespace Go.Sy
open Go.RowKit Go.Proofs
set_option linter.unusedVariables false
set_option maxRecDepth 1000000
set_option maxHeartbeats 0
noncomputable def smOf40 : List (AV × AV) := [
  ((.cons (.agg (.cons smv778 .nil)) .nil), (.tup (.cons smv781 (.cons (.int .i64 0) .nil)))),
  ((.cons (.agg (.cons smv782 .nil)) .nil), (.tup (.cons smv787 (.cons (.int .i64 0) .nil)))),
  ((.cons (.agg (.cons smv788 .nil)) .nil), (.tup (.cons smv791 (.cons (.int .i64 0) .nil)))),
  ((.cons (.agg (.cons smv792 .nil)) .nil), (.tup (.cons smv795 (.cons (.int .i64 0) .nil))))]
theorem smranOf40 : ranAll Tryz.prog smov1 170 smOf40 = true := by decide +kernel
noncomputable def smOf41 : List (AV × AV) := [
  ((.cons (.agg (.cons smv796 .nil)) .nil), (.tup (.cons smv801 (.cons (.int .i64 0) .nil)))),
  ((.cons (.agg (.cons smv802 .nil)) .nil), (.tup (.cons smv805 (.cons (.int .i64 0) .nil)))),
  ((.cons (.agg (.cons smv806 .nil)) .nil), (.tup (.cons smv809 (.cons (.int .i64 0) .nil)))),
  ((.cons (.agg (.cons smv810 .nil)) .nil), (.tup (.cons smv813 (.cons (.int .i64 0) .nil))))]
theorem smranOf41 : ranAll Tryz.prog smov1 170 smOf41 = true := by decide +kernel
noncomputable def smOf42 : List (AV × AV) := [
  ((.cons (.agg (.cons smv814 .nil)) .nil), (.tup (.cons smv817 (.cons (.int .i64 0) .nil)))),
  ((.cons (.agg (.cons smv818 .nil)) .nil), (.tup (.cons smv821 (.cons (.int .i64 0) .nil)))),
  ((.cons (.agg (.cons smv822 .nil)) .nil), (.tup (.cons smv825 (.cons (.int .i64 0) .nil)))),
  ((.cons (.agg (.cons smv826 .nil)) .nil), (.tup (.cons smv829 (.cons (.int .i64 0) .nil))))]
theorem smranOf42 : ranAll Tryz.prog smov1 170 smOf42 = true := by decide +kernel
noncomputable def smOf43 : List (AV × AV) := [
  ((.cons (.agg (.cons smv830 .nil)) .nil), (.tup (.cons smv833 (.cons (.int .i64 0) .nil)))),
  ((.cons (.agg (.cons smv836 .nil)) .nil), (.tup (.cons smv839 (.cons (.int .i64 0) .nil)))),
  ((.cons (.agg (.cons smv840 .nil)) .nil), (.tup (.cons smv843 (.cons (.int .i64 0) .nil)))),
  ((.cons (.agg (.cons smv844 .nil)) .nil), (.tup (.cons smv849 (.cons (.int .i64 0) .nil))))]
theorem smranOf43 : ranAll Tryz.prog smov1 170 smOf43 = true := by decide +kernel
noncomputable def smOf44 : List (AV × AV) := [
  ((.cons (.agg (.cons smv850 .nil)) .nil), (.tup (.cons smv853 (.cons (.int .i64 0) .nil)))),
  ((.cons (.agg (.cons smv854 .nil)) .nil), (.tup (.cons smv859 (.cons (.int .i64 0) .nil)))),
  ((.cons (.agg (.cons smv860 .nil)) .nil), (.tup (.cons smv863 (.cons (.int .i64 0) .nil)))),
  ((.cons (.agg (.cons smv864 .nil)) .nil), (.tup (.cons smv867 (.cons (.int .i64 0) .nil))))]
theorem smranOf44 : ranAll Tryz.prog smov1 170 smOf44 = true := by decide +kernel
noncomputable def smOf45 : List (AV × AV) := [
  ((.cons (.agg (.cons smv868 .nil)) .nil), (.tup (.cons smv871 (.cons (.int .i64 0) .nil)))),
  ((.cons (.agg (.cons smv872 .nil)) .nil), (.tup (.cons smv875 (.cons (.int .i64 0) .nil)))),
  ((.cons (.agg (.cons smv878 .nil)) .nil), (.tup (.cons smv883 (.cons (.int .i64 0) .nil)))),
  ((.cons (.agg (.cons smv884 .nil)) .nil), (.tup (.cons smv889 (.cons (.int .i64 0) .nil))))]
theorem smranOf45 : ranAll Tryz.prog smov1 170 smOf45 = true := by decide +kernel
noncomputable def smOf46 : List (AV × AV) := [
  ((.cons (.agg (.cons smv890 .nil)) .nil), (.tup (.cons smv893 (.cons (.int .i64 0) .nil)))),
  ((.cons (.agg (.cons smv894 .nil)) .nil), (.tup (.cons smv899 (.cons (.int .i64 0) .nil)))),
  ((.cons (.agg (.cons smv900 .nil)) .nil), (.tup (.cons smv903 (.cons (.int .i64 0) .nil)))),
  ((.cons (.agg (.cons smv904 .nil)) .nil), (.tup (.cons smv909 (.cons (.int .i64 0) .nil))))]
theorem smranOf46 : ranAll Tryz.prog smov1 170 smOf46 = true := by decide +kernel
noncomputable def smOf47 : List (AV × AV) := [
  ((.cons (.agg (.cons smv910 .nil)) .nil), (.tup (.cons smv915 (.cons (.int .i64 0) .nil)))),
  ((.cons (.agg (.cons smv916 .nil)) .nil), (.tup (.cons smv919 (.cons (.int .i64 0) .nil)))),
  ((.cons (.agg (.cons smv920 .nil)) .nil), (.tup (.cons smv923 (.cons (.int .i64 0) .nil)))),
  ((.cons (.agg (.cons smv924 .nil)) .nil), (.tup (.cons smv929 (.cons (.int .i64 0) .nil))))]
theorem smranOf47 : ranAll Tryz.prog smov1 170 smOf47 = true := by decide +kernel
noncomputable def smOf48 : List (AV × AV) := [
  ((.cons (.agg (.cons smv930 .nil)) .nil), (.tup (.cons smv933 (.cons (.int .i64 0) .nil)))),
  ((.cons (.agg (.cons smv934 .nil)) .nil), (.tup (.cons smv937 (.cons (.int .i64 0) .nil)))),
  ((.cons (.agg (.cons smv938 .nil)) .nil), (.tup (.cons smv941 (.cons (.int .i64 0) .nil)))),
  ((.cons (.agg (.cons smv942 .nil)) .nil), (.tup (.cons smv947 (.cons (.int .i64 0) .nil))))]
theorem smranOf48 : ranAll Tryz.prog smov1 170 smOf48 = true := by decide +kernel
noncomputable def smOf49 : List (AV × AV) := [
  ((.cons (.agg (.cons smv948 .nil)) .nil), (.tup (.cons smv951 (.cons (.int .i64 0) .nil)))),
  ((.cons (.agg (.cons smv952 .nil)) .nil), (.tup (.cons smv955 (.cons (.int .i64 0) .nil)))),
  ((.cons (.agg (.cons smv956 .nil)) .nil), (.tup (.cons smv959 (.cons (.int .i64 0) .nil)))),
  ((.cons (.agg (.cons smv960 .nil)) .nil), (.tup (.cons smv963 (.cons (.int .i64 0) .nil))))]
theorem smranOf49 : ranAll Tryz.prog smov1 170 smOf49 = true := by decide +kernel
end Go.Sy
