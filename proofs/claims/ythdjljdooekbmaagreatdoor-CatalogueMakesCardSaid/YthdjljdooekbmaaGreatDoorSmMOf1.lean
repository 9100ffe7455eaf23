/- Runs of dowel/cell.Of. -/
import Derived.Test.YthdjljdooekbmaaGreatDoorSmO0
namespace Go.Sy
open Go.RowKit Go.Proofs
set_option linter.unusedVariables false
set_option maxRecDepth 1000000
set_option maxHeartbeats 0
noncomputable def smOf10 : List (AV × AV) := [
  ((.cons (.agg (.cons smv214 .nil)) .nil), (.tup (.cons smv219 (.cons (.int .i64 0) .nil)))),
  ((.cons (.agg (.cons smv220 .nil)) .nil), (.tup (.cons smv223 (.cons (.int .i64 0) .nil)))),
  ((.cons (.agg (.cons smv224 .nil)) .nil), (.tup (.cons smv229 (.cons (.int .i64 0) .nil)))),
  ((.cons (.agg (.cons smv232 .nil)) .nil), (.tup (.cons smv237 (.cons (.int .i64 0) .nil))))]
theorem smranOf10 : ranAll Tryz.prog smov1 170 smOf10 = true := by decide +kernel
noncomputable def smOf11 : List (AV × AV) := [
  ((.cons (.agg (.cons smv238 .nil)) .nil), (.tup (.cons smv241 (.cons (.int .i64 0) .nil)))),
  ((.cons (.agg (.cons smv242 .nil)) .nil), (.tup (.cons smv247 (.cons (.int .i64 0) .nil)))),
  ((.cons (.agg (.cons smv248 .nil)) .nil), (.tup (.cons smv251 (.cons (.int .i64 0) .nil)))),
  ((.cons (.agg (.cons smv252 .nil)) .nil), (.tup (.cons smv257 (.cons (.int .i64 0) .nil))))]
theorem smranOf11 : ranAll Tryz.prog smov1 170 smOf11 = true := by decide +kernel
noncomputable def smOf12 : List (AV × AV) := [
  ((.cons (.agg (.cons smv258 .nil)) .nil), (.tup (.cons smv261 (.cons (.int .i64 0) .nil)))),
  ((.cons (.agg (.cons smv262 .nil)) .nil), (.tup (.cons smv265 (.cons (.int .i64 0) .nil)))),
  ((.cons (.agg (.cons smv266 .nil)) .nil), (.tup (.cons smv269 (.cons (.int .i64 0) .nil)))),
  ((.cons (.agg (.cons smv270 .nil)) .nil), (.tup (.cons smv273 (.cons (.int .i64 0) .nil))))]
theorem smranOf12 : ranAll Tryz.prog smov1 170 smOf12 = true := by decide +kernel
noncomputable def smOf13 : List (AV × AV) := [
  ((.cons (.agg (.cons smv274 .nil)) .nil), (.tup (.cons smv277 (.cons (.int .i64 0) .nil)))),
  ((.cons (.agg (.cons smv278 .nil)) .nil), (.tup (.cons smv281 (.cons (.int .i64 0) .nil)))),
  ((.cons (.agg (.cons smv282 .nil)) .nil), (.tup (.cons smv285 (.cons (.int .i64 0) .nil)))),
  ((.cons (.agg (.cons smv286 .nil)) .nil), (.tup (.cons smv289 (.cons (.int .i64 0) .nil))))]
theorem smranOf13 : ranAll Tryz.prog smov1 170 smOf13 = true := by decide +kernel
noncomputable def smOf14 : List (AV × AV) := [
  ((.cons (.agg (.cons smv290 .nil)) .nil), (.tup (.cons smv293 (.cons (.int .i64 0) .nil)))),
  ((.cons (.agg (.cons smv294 .nil)) .nil), (.tup (.cons smv297 (.cons (.int .i64 0) .nil)))),
  ((.cons (.agg (.cons smv298 .nil)) .nil), (.tup (.cons smv301 (.cons (.int .i64 0) .nil)))),
  ((.cons (.agg (.cons smv304 .nil)) .nil), (.tup (.cons smv309 (.cons (.int .i64 0) .nil))))]
theorem smranOf14 : ranAll Tryz.prog smov1 170 smOf14 = true := by decide +kernel
noncomputable def smOf15 : List (AV × AV) := [
  ((.cons (.agg (.cons smv310 .nil)) .nil), (.tup (.cons smv313 (.cons (.int .i64 0) .nil)))),
  ((.cons (.agg (.cons smv314 .nil)) .nil), (.tup (.cons smv317 (.cons (.int .i64 0) .nil)))),
  ((.cons (.agg (.cons smv318 .nil)) .nil), (.tup (.cons smv321 (.cons (.int .i64 0) .nil)))),
  ((.cons (.agg (.cons smv322 .nil)) .nil), (.tup (.cons smv325 (.cons (.int .i64 0) .nil))))]
theorem smranOf15 : ranAll Tryz.prog smov1 170 smOf15 = true := by decide +kernel
noncomputable def smOf16 : List (AV × AV) := [
  ((.cons (.agg (.cons smv326 .nil)) .nil), (.tup (.cons smv329 (.cons (.int .i64 0) .nil)))),
  ((.cons (.agg (.cons smv330 .nil)) .nil), (.tup (.cons smv333 (.cons (.int .i64 0) .nil)))),
  ((.cons (.agg (.cons smv336 .nil)) .nil), (.tup (.cons smv341 (.cons (.int .i64 0) .nil)))),
  ((.cons (.agg (.cons smv342 .nil)) .nil), (.tup (.cons smv347 (.cons (.int .i64 0) .nil))))]
theorem smranOf16 : ranAll Tryz.prog smov1 170 smOf16 = true := by decide +kernel
noncomputable def smOf17 : List (AV × AV) := [
  ((.cons (.agg (.cons smv348 .nil)) .nil), (.tup (.cons smv351 (.cons (.int .i64 0) .nil)))),
  ((.cons (.agg (.cons smv352 .nil)) .nil), (.tup (.cons smv357 (.cons (.int .i64 0) .nil)))),
  ((.cons (.agg (.cons smv358 .nil)) .nil), (.tup (.cons smv361 (.cons (.int .i64 0) .nil)))),
  ((.cons (.agg (.cons smv362 .nil)) .nil), (.tup (.cons smv367 (.cons (.int .i64 0) .nil))))]
theorem smranOf17 : ranAll Tryz.prog smov1 170 smOf17 = true := by decide +kernel
noncomputable def smOf18 : List (AV × AV) := [
  ((.cons (.agg (.cons smv368 .nil)) .nil), (.tup (.cons smv373 (.cons (.int .i64 0) .nil)))),
  ((.cons (.agg (.cons smv374 .nil)) .nil), (.tup (.cons smv377 (.cons (.int .i64 0) .nil)))),
  ((.cons (.agg (.cons smv378 .nil)) .nil), (.tup (.cons smv381 (.cons (.int .i64 0) .nil)))),
  ((.cons (.agg (.cons smv384 .nil)) .nil), (.tup (.cons smv387 (.cons (.int .i64 0) .nil))))]
theorem smranOf18 : ranAll Tryz.prog smov1 170 smOf18 = true := by decide +kernel
noncomputable def smOf19 : List (AV × AV) := [
  ((.cons (.agg (.cons smv388 .nil)) .nil), (.tup (.cons smv391 (.cons (.int .i64 0) .nil)))),
  ((.cons (.agg (.cons smv394 .nil)) .nil), (.tup (.cons smv399 (.cons (.int .i64 0) .nil)))),
  ((.cons (.agg (.cons smv400 .nil)) .nil), (.tup (.cons smv405 (.cons (.int .i64 0) .nil)))),
  ((.cons (.agg (.cons smv406 .nil)) .nil), (.tup (.cons smv409 (.cons (.int .i64 0) .nil))))]
theorem smranOf19 : ranAll Tryz.prog smov1 170 smOf19 = true := by decide +kernel
end Go.Sy
