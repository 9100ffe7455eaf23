/- Runs of dowel/cell.Of. -/
import Derived.Test.YthdjljdooekbmaaGreatDoorSmO0
namespace Go.Sy
open Go.RowKit Go.Proofs
set_option linter.unusedVariables false
set_option maxRecDepth 1000000
set_option maxHeartbeats 0
noncomputable def smOf0 : List (AV × AV) := [
  ((.cons (.agg (.cons smv0 .nil)) .nil), (.tup (.cons smv13 (.cons (.int .i64 0) .nil)))),
  ((.cons (.agg (.cons smv14 .nil)) .nil), (.tup (.cons smv17 (.cons (.int .i64 0) .nil)))),
  ((.cons (.agg (.cons smv18 .nil)) .nil), (.tup (.cons smv23 (.cons (.int .i64 0) .nil)))),
  ((.cons (.agg (.cons smv24 .nil)) .nil), (.tup (.cons smv27 (.cons (.int .i64 0) .nil))))]
theorem smranOf0 : ranAll Tryz.prog smov1 170 smOf0 = true := by decide +kernel
noncomputable def smOf1 : List (AV × AV) := [
  ((.cons (.agg (.cons smv28 .nil)) .nil), (.tup (.cons smv33 (.cons (.int .i64 0) .nil)))),
  ((.cons (.agg (.cons smv34 .nil)) .nil), (.tup (.cons smv37 (.cons (.int .i64 0) .nil)))),
  ((.cons (.agg (.cons smv38 .nil)) .nil), (.tup (.cons smv41 (.cons (.int .i64 0) .nil)))),
  ((.cons (.agg (.cons smv42 .nil)) .nil), (.tup (.cons smv45 (.cons (.int .i64 0) .nil))))]
theorem smranOf1 : ranAll Tryz.prog smov1 170 smOf1 = true := by decide +kernel
noncomputable def smOf2 : List (AV × AV) := [
  ((.cons (.agg (.cons smv46 .nil)) .nil), (.tup (.cons smv49 (.cons (.int .i64 0) .nil)))),
  ((.cons (.agg (.cons smv50 .nil)) .nil), (.tup (.cons smv53 (.cons (.int .i64 0) .nil)))),
  ((.cons (.agg (.cons smv54 .nil)) .nil), (.tup (.cons smv57 (.cons (.int .i64 0) .nil)))),
  ((.cons (.agg (.cons smv58 .nil)) .nil), (.tup (.cons smv61 (.cons (.int .i64 0) .nil))))]
theorem smranOf2 : ranAll Tryz.prog smov1 170 smOf2 = true := by decide +kernel
noncomputable def smOf3 : List (AV × AV) := [
  ((.cons (.agg (.cons smv62 .nil)) .nil), (.tup (.cons smv65 (.cons (.int .i64 0) .nil)))),
  ((.cons (.agg (.cons smv66 .nil)) .nil), (.tup (.cons smv69 (.cons (.int .i64 0) .nil)))),
  ((.cons (.agg (.cons smv70 .nil)) .nil), (.tup (.cons smv73 (.cons (.int .i64 0) .nil)))),
  ((.cons (.agg (.cons smv74 .nil)) .nil), (.tup (.cons smv77 (.cons (.int .i64 0) .nil))))]
theorem smranOf3 : ranAll Tryz.prog smov1 170 smOf3 = true := by decide +kernel
noncomputable def smOf4 : List (AV × AV) := [
  ((.cons (.agg (.cons smv82 .nil)) .nil), (.tup (.cons smv87 (.cons (.int .i64 0) .nil)))),
  ((.cons (.agg (.cons smv88 .nil)) .nil), (.tup (.cons smv95 (.cons (.int .i64 0) .nil)))),
  ((.cons (.agg (.cons smv96 .nil)) .nil), (.tup (.cons smv99 (.cons (.int .i64 0) .nil)))),
  ((.cons (.agg (.cons smv100 .nil)) .nil), (.tup (.cons smv105 (.cons (.int .i64 0) .nil))))]
theorem smranOf4 : ranAll Tryz.prog smov1 170 smOf4 = true := by decide +kernel
noncomputable def smOf5 : List (AV × AV) := [
  ((.cons (.agg (.cons smv106 .nil)) .nil), (.tup (.cons smv109 (.cons (.int .i64 0) .nil)))),
  ((.cons (.agg (.cons smv110 .nil)) .nil), (.tup (.cons smv117 (.cons (.int .i64 0) .nil)))),
  ((.cons (.agg (.cons smv118 .nil)) .nil), (.tup (.cons smv125 (.cons (.int .i64 0) .nil)))),
  ((.cons (.agg (.cons smv126 .nil)) .nil), (.tup (.cons smv129 (.cons (.int .i64 0) .nil))))]
theorem smranOf5 : ranAll Tryz.prog smov1 170 smOf5 = true := by decide +kernel
noncomputable def smOf6 : List (AV × AV) := [
  ((.cons (.agg (.cons smv130 .nil)) .nil), (.tup (.cons smv133 (.cons (.int .i64 0) .nil)))),
  ((.cons (.agg (.cons smv134 .nil)) .nil), (.tup (.cons smv137 (.cons (.int .i64 0) .nil)))),
  ((.cons (.agg (.cons smv138 .nil)) .nil), (.tup (.cons smv141 (.cons (.int .i64 0) .nil)))),
  ((.cons (.agg (.cons smv144 .nil)) .nil), (.tup (.cons smv149 (.cons (.int .i64 0) .nil))))]
theorem smranOf6 : ranAll Tryz.prog smov1 170 smOf6 = true := by decide +kernel
noncomputable def smOf7 : List (AV × AV) := [
  ((.cons (.agg (.cons smv150 .nil)) .nil), (.tup (.cons smv155 (.cons (.int .i64 0) .nil)))),
  ((.cons (.agg (.cons smv156 .nil)) .nil), (.tup (.cons smv159 (.cons (.int .i64 0) .nil)))),
  ((.cons (.agg (.cons smv160 .nil)) .nil), (.tup (.cons smv165 (.cons (.int .i64 0) .nil)))),
  ((.cons (.agg (.cons smv166 .nil)) .nil), (.tup (.cons smv169 (.cons (.int .i64 0) .nil))))]
theorem smranOf7 : ranAll Tryz.prog smov1 170 smOf7 = true := by decide +kernel
noncomputable def smOf8 : List (AV × AV) := [
  ((.cons (.agg (.cons smv172 .nil)) .nil), (.tup (.cons smv177 (.cons (.int .i64 0) .nil)))),
  ((.cons (.agg (.cons smv178 .nil)) .nil), (.tup (.cons smv183 (.cons (.int .i64 0) .nil)))),
  ((.cons (.agg (.cons smv184 .nil)) .nil), (.tup (.cons smv187 (.cons (.int .i64 0) .nil)))),
  ((.cons (.agg (.cons smv188 .nil)) .nil), (.tup (.cons smv193 (.cons (.int .i64 0) .nil))))]
theorem smranOf8 : ranAll Tryz.prog smov1 170 smOf8 = true := by decide +kernel
noncomputable def smOf9 : List (AV × AV) := [
  ((.cons (.agg (.cons smv194 .nil)) .nil), (.tup (.cons smv197 (.cons (.int .i64 0) .nil)))),
  ((.cons (.agg (.cons smv198 .nil)) .nil), (.tup (.cons smv201 (.cons (.int .i64 0) .nil)))),
  ((.cons (.agg (.cons smv204 .nil)) .nil), (.tup (.cons smv209 (.cons (.int .i64 0) .nil)))),
  ((.cons (.agg (.cons smv210 .nil)) .nil), (.tup (.cons smv213 (.cons (.int .i64 0) .nil))))]
theorem smranOf9 : ranAll Tryz.prog smov1 170 smOf9 = true := by decide +kernel
end Go.Sy
