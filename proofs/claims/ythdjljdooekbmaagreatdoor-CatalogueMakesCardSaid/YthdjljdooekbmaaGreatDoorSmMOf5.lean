/- Runs of dowel/cell.Of. -/
import Derived.Test.YthdjljdooekbmaaGreatDoorSmO0
namespace Go.Sy
open Go.RowKit Go.Proofs
set_option linter.unusedVariables false
set_option maxRecDepth 1000000
set_option maxHeartbeats 0
noncomputable def smOf50 : List (AV × AV) := [
  ((.cons (.agg (.cons smv964 .nil)) .nil), (.tup (.cons smv967 (.cons (.int .i64 0) .nil)))),
  ((.cons (.agg (.cons smv968 .nil)) .nil), (.tup (.cons smv971 (.cons (.int .i64 0) .nil)))),
  ((.cons (.agg (.cons smv972 .nil)) .nil), (.tup (.cons smv975 (.cons (.int .i64 0) .nil)))),
  ((.cons (.agg (.cons smv976 .nil)) .nil), (.tup (.cons smv981 (.cons (.int .i64 0) .nil))))]
theorem smranOf50 : ranAll Tryz.prog smov1 170 smOf50 = true := by decide +kernel
noncomputable def smOf51 : List (AV × AV) := [
  ((.cons (.agg (.cons smv982 .nil)) .nil), (.tup (.cons smv985 (.cons (.int .i64 0) .nil)))),
  ((.cons (.agg (.cons smv986 .nil)) .nil), (.tup (.cons smv989 (.cons (.int .i64 0) .nil)))),
  ((.cons (.agg (.cons smv990 .nil)) .nil), (.tup (.cons smv995 (.cons (.int .i64 0) .nil)))),
  ((.cons (.agg (.cons smv996 .nil)) .nil), (.tup (.cons smv999 (.cons (.int .i64 0) .nil))))]
theorem smranOf51 : ranAll Tryz.prog smov1 170 smOf51 = true := by decide +kernel
noncomputable def smOf52 : List (AV × AV) := [
  ((.cons (.agg (.cons smv1000 .nil)) .nil), (.tup (.cons smv1005 (.cons (.int .i64 0) .nil)))),
  ((.cons (.agg (.cons smv1006 .nil)) .nil), (.tup (.cons smv1009 (.cons (.int .i64 0) .nil)))),
  ((.cons (.agg (.cons smv1010 .nil)) .nil), (.tup (.cons smv1013 (.cons (.int .i64 0) .nil)))),
  ((.cons (.agg (.cons smv1014 .nil)) .nil), (.tup (.cons smv1017 (.cons (.int .i64 0) .nil))))]
theorem smranOf52 : ranAll Tryz.prog smov1 170 smOf52 = true := by decide +kernel
noncomputable def smOf53 : List (AV × AV) := [
  ((.cons (.agg (.cons smv1020 .nil)) .nil), (.tup (.cons smv1023 (.cons (.int .i64 0) .nil)))),
  ((.cons (.agg (.cons smv1024 .nil)) .nil), (.tup (.cons smv1027 (.cons (.int .i64 0) .nil)))),
  ((.cons (.agg (.cons smv1028 .nil)) .nil), (.tup (.cons smv1031 (.cons (.int .i64 0) .nil)))),
  ((.cons (.agg (.cons smv1032 .nil)) .nil), (.tup (.cons smv1035 (.cons (.int .i64 0) .nil))))]
theorem smranOf53 : ranAll Tryz.prog smov1 170 smOf53 = true := by decide +kernel
noncomputable def smOf54 : List (AV × AV) := [
  ((.cons (.agg (.cons smv1036 .nil)) .nil), (.tup (.cons smv1039 (.cons (.int .i64 0) .nil)))),
  ((.cons (.agg (.cons smv1040 .nil)) .nil), (.tup (.cons smv1043 (.cons (.int .i64 0) .nil)))),
  ((.cons (.agg (.cons smv1044 .nil)) .nil), (.tup (.cons smv1047 (.cons (.int .i64 0) .nil)))),
  ((.cons (.agg (.cons smv1048 .nil)) .nil), (.tup (.cons smv1051 (.cons (.int .i64 0) .nil))))]
theorem smranOf54 : ranAll Tryz.prog smov1 170 smOf54 = true := by decide +kernel
noncomputable def smOf55 : List (AV × AV) := [
  ((.cons (.agg (.cons smv1052 .nil)) .nil), (.tup (.cons smv1055 (.cons (.int .i64 0) .nil)))),
  ((.cons (.agg (.cons smv1056 .nil)) .nil), (.tup (.cons smv1059 (.cons (.int .i64 0) .nil)))),
  ((.cons (.agg (.cons smv1060 .nil)) .nil), (.tup (.cons smv1065 (.cons (.int .i64 0) .nil)))),
  ((.cons (.agg (.cons smv1066 .nil)) .nil), (.tup (.cons smv1069 (.cons (.int .i64 0) .nil))))]
theorem smranOf55 : ranAll Tryz.prog smov1 170 smOf55 = true := by decide +kernel
noncomputable def smOf56 : List (AV × AV) := [
  ((.cons (.agg (.cons smv1070 .nil)) .nil), (.tup (.cons smv1075 (.cons (.int .i64 0) .nil)))),
  ((.cons (.agg (.cons smv1076 .nil)) .nil), (.tup (.cons smv1079 (.cons (.int .i64 0) .nil)))),
  ((.cons (.agg (.cons smv1080 .nil)) .nil), (.tup (.cons smv1083 (.cons (.int .i64 0) .nil)))),
  ((.cons (.agg (.cons smv1084 .nil)) .nil), (.tup (.cons smv1087 (.cons (.int .i64 0) .nil))))]
theorem smranOf56 : ranAll Tryz.prog smov1 170 smOf56 = true := by decide +kernel
noncomputable def smOf57 : List (AV × AV) := [
  ((.cons (.agg (.cons smv1088 .nil)) .nil), (.tup (.cons smv1091 (.cons (.int .i64 0) .nil)))),
  ((.cons (.agg (.cons smv1092 .nil)) .nil), (.tup (.cons smv1095 (.cons (.int .i64 0) .nil)))),
  ((.cons (.agg (.cons smv1096 .nil)) .nil), (.tup (.cons smv1099 (.cons (.int .i64 0) .nil)))),
  ((.cons (.agg (.cons smv1100 .nil)) .nil), (.tup (.cons smv1103 (.cons (.int .i64 0) .nil))))]
theorem smranOf57 : ranAll Tryz.prog smov1 170 smOf57 = true := by decide +kernel
noncomputable def smOf58 : List (AV × AV) := [
  ((.cons (.agg (.cons smv1104 .nil)) .nil), (.tup (.cons smv1107 (.cons (.int .i64 0) .nil)))),
  ((.cons (.agg (.cons smv1108 .nil)) .nil), (.tup (.cons smv1111 (.cons (.int .i64 0) .nil)))),
  ((.cons (.agg (.cons smv1112 .nil)) .nil), (.tup (.cons smv1115 (.cons (.int .i64 0) .nil)))),
  ((.cons (.agg (.cons smv1116 .nil)) .nil), (.tup (.cons smv1119 (.cons (.int .i64 0) .nil))))]
theorem smranOf58 : ranAll Tryz.prog smov1 170 smOf58 = true := by decide +kernel
noncomputable def smOf59 : List (AV × AV) := [
  ((.cons (.agg (.cons smv1120 .nil)) .nil), (.tup (.cons smv1123 (.cons (.int .i64 0) .nil)))),
  ((.cons (.agg (.cons smv1124 .nil)) .nil), (.tup (.cons smv1129 (.cons (.int .i64 0) .nil)))),
  ((.cons (.agg (.cons smv1130 .nil)) .nil), (.tup (.cons smv1135 (.cons (.int .i64 0) .nil)))),
  ((.cons (.agg (.cons smv1136 .nil)) .nil), (.tup (.cons smv1139 (.cons (.int .i64 0) .nil))))]
theorem smranOf59 : ranAll Tryz.prog smov1 170 smOf59 = true := by decide +kernel
end Go.Sy
