/- Runs of dowel/cell.rings. -/
import Derived.Test.YthdjljdooekbmaaGreatDoorSmV1
namespace Go.Sy
open Go.RowKit Go.Proofs
set_option linter.unusedVariables false
set_option maxRecDepth 1000000
set_option maxHeartbeats 0
noncomputable def smRi8 : List (AV × AV) := [
  ((.cons smv214 .nil), smv216),
  ((.cons smv220 .nil), smv216),
  ((.cons smv224 .nil), smv226),
  ((.cons smv232 .nil), smv234),
  ((.cons smv238 .nil), smv234)]
theorem smranRi8 : ranAll Tryz.prog ov0 206 smRi8 = true := by decide +kernel
noncomputable def smRi9 : List (AV × AV) := [
  ((.cons smv242 .nil), smv244),
  ((.cons smv248 .nil), smv244),
  ((.cons smv252 .nil), smv254),
  ((.cons smv258 .nil), smv254),
  ((.cons smv262 .nil), smv244)]
theorem smranRi9 : ranAll Tryz.prog ov0 206 smRi9 = true := by decide +kernel
noncomputable def smRi10 : List (AV × AV) := [
  ((.cons smv266 .nil), smv244),
  ((.cons smv270 .nil), smv234),
  ((.cons smv274 .nil), smv234),
  ((.cons smv278 .nil), smv244),
  ((.cons smv282 .nil), smv244)]
theorem smranRi10 : ranAll Tryz.prog ov0 206 smRi10 = true := by decide +kernel
noncomputable def smRi11 : List (AV × AV) := [
  ((.cons smv286 .nil), smv254),
  ((.cons smv290 .nil), smv254),
  ((.cons smv294 .nil), smv244),
  ((.cons smv298 .nil), smv244),
  ((.cons smv304 .nil), smv306)]
theorem smranRi11 : ranAll Tryz.prog ov0 206 smRi11 = true := by decide +kernel
noncomputable def smRi12 : List (AV × AV) := [
  ((.cons smv310 .nil), smv102),
  ((.cons smv314 .nil), smv102),
  ((.cons smv318 .nil), smv162),
  ((.cons smv322 .nil), smv162),
  ((.cons smv326 .nil), smv152)]
theorem smranRi12 : ranAll Tryz.prog ov0 206 smRi12 = true := by decide +kernel
noncomputable def smRi13 : List (AV × AV) := [
  ((.cons smv330 .nil), smv152),
  ((.cons smv336 .nil), smv338),
  ((.cons smv342 .nil), smv344),
  ((.cons smv348 .nil), smv344),
  ((.cons smv352 .nil), smv354)]
theorem smranRi13 : ranAll Tryz.prog ov0 206 smRi13 = true := by decide +kernel
noncomputable def smRi14 : List (AV × AV) := [
  ((.cons smv358 .nil), smv354),
  ((.cons smv362 .nil), smv364),
  ((.cons smv368 .nil), smv370),
  ((.cons smv374 .nil), smv364),
  ((.cons smv378 .nil), smv370)]
theorem smranRi14 : ranAll Tryz.prog ov0 206 smRi14 = true := by decide +kernel
noncomputable def smRi15 : List (AV × AV) := [
  ((.cons smv384 .nil), smv206),
  ((.cons smv388 .nil), smv206),
  ((.cons smv394 .nil), smv396),
  ((.cons smv400 .nil), smv402),
  ((.cons smv406 .nil), smv402)]
theorem smranRi15 : ranAll Tryz.prog ov0 206 smRi15 = true := by decide +kernel
end Go.Sy
