/- Runs of dowel/solid.Penetrate. -/
import Derived.Test.YthdjljdooekbmaaGreatDoorSmO1
namespace Go.Sy
open Go.RowKit Go.Proofs
set_option linter.unusedVariables false
set_option maxRecDepth 1000000
set_option maxHeartbeats 0
noncomputable def smPe0 : List (AV × AV) := [
  ((.cons smv17 (.cons smv13 .nil)), (.bool false)),
  ((.cons smv23 (.cons smv13 .nil)), (.bool false)),
  ((.cons smv23 (.cons smv17 .nil)), (.bool false)),
  ((.cons smv27 (.cons smv13 .nil)), (.bool false)),
  ((.cons smv27 (.cons smv17 .nil)), (.bool false)),
  ((.cons smv27 (.cons smv23 .nil)), (.bool false)),
  ((.cons smv37 (.cons smv33 .nil)), (.bool false)),
  ((.cons smv41 (.cons smv33 .nil)), (.bool false))]
theorem smranPe0 : ranAll Tryz.prog smov2 173 smPe0 = true := by decide +kernel
noncomputable def smPe1 : List (AV × AV) := [
  ((.cons smv41 (.cons smv37 .nil)), (.bool false)),
  ((.cons smv45 (.cons smv33 .nil)), (.bool false)),
  ((.cons smv45 (.cons smv37 .nil)), (.bool false)),
  ((.cons smv45 (.cons smv41 .nil)), (.bool false)),
  ((.cons smv53 (.cons smv49 .nil)), (.bool false)),
  ((.cons smv57 (.cons smv49 .nil)), (.bool false)),
  ((.cons smv57 (.cons smv53 .nil)), (.bool false)),
  ((.cons smv61 (.cons smv49 .nil)), (.bool false))]
theorem smranPe1 : ranAll Tryz.prog smov2 173 smPe1 = true := by decide +kernel
noncomputable def smPe2 : List (AV × AV) := [
  ((.cons smv61 (.cons smv53 .nil)), (.bool false)),
  ((.cons smv61 (.cons smv57 .nil)), (.bool false)),
  ((.cons smv69 (.cons smv65 .nil)), (.bool false)),
  ((.cons smv73 (.cons smv65 .nil)), (.bool false)),
  ((.cons smv73 (.cons smv69 .nil)), (.bool false)),
  ((.cons smv77 (.cons smv65 .nil)), (.bool false)),
  ((.cons smv77 (.cons smv69 .nil)), (.bool false)),
  ((.cons smv77 (.cons smv73 .nil)), (.bool false))]
theorem smranPe2 : ranAll Tryz.prog smov2 173 smPe2 = true := by decide +kernel
noncomputable def smPe3 : List (AV × AV) := [
  ((.cons smv95 (.cons smv87 .nil)), (.bool false)),
  ((.cons smv99 (.cons smv87 .nil)), (.bool false)),
  ((.cons smv99 (.cons smv95 .nil)), (.bool false)),
  ((.cons smv105 (.cons smv87 .nil)), (.bool false)),
  ((.cons smv105 (.cons smv95 .nil)), (.bool false)),
  ((.cons smv105 (.cons smv99 .nil)), (.bool false)),
  ((.cons smv109 (.cons smv87 .nil)), (.bool false)),
  ((.cons smv109 (.cons smv95 .nil)), (.bool false))]
theorem smranPe3 : ranAll Tryz.prog smov2 173 smPe3 = true := by decide +kernel
noncomputable def smPe4 : List (AV × AV) := [
  ((.cons smv109 (.cons smv99 .nil)), (.bool false)),
  ((.cons smv109 (.cons smv105 .nil)), (.bool false)),
  ((.cons smv125 (.cons smv117 .nil)), (.bool false)),
  ((.cons smv133 (.cons smv129 .nil)), (.bool false)),
  ((.cons smv141 (.cons smv137 .nil)), (.bool false)),
  ((.cons smv155 (.cons smv149 .nil)), (.bool false)),
  ((.cons smv159 (.cons smv149 .nil)), (.bool false)),
  ((.cons smv159 (.cons smv155 .nil)), (.bool false))]
theorem smranPe4 : ranAll Tryz.prog smov2 173 smPe4 = true := by decide +kernel
noncomputable def smPe5 : List (AV × AV) := [
  ((.cons smv165 (.cons smv149 .nil)), (.bool false)),
  ((.cons smv165 (.cons smv155 .nil)), (.bool false)),
  ((.cons smv165 (.cons smv159 .nil)), (.bool false)),
  ((.cons smv169 (.cons smv149 .nil)), (.bool false)),
  ((.cons smv169 (.cons smv155 .nil)), (.bool false)),
  ((.cons smv169 (.cons smv159 .nil)), (.bool false)),
  ((.cons smv169 (.cons smv165 .nil)), (.bool false)),
  ((.cons smv183 (.cons smv177 .nil)), (.bool false))]
theorem smranPe5 : ranAll Tryz.prog smov2 173 smPe5 = true := by decide +kernel
noncomputable def smPe6 : List (AV × AV) := [
  ((.cons smv187 (.cons smv177 .nil)), (.bool false)),
  ((.cons smv187 (.cons smv183 .nil)), (.bool false)),
  ((.cons smv193 (.cons smv177 .nil)), (.bool false)),
  ((.cons smv193 (.cons smv183 .nil)), (.bool false)),
  ((.cons smv193 (.cons smv187 .nil)), (.bool false)),
  ((.cons smv197 (.cons smv177 .nil)), (.bool false)),
  ((.cons smv197 (.cons smv183 .nil)), (.bool false)),
  ((.cons smv197 (.cons smv187 .nil)), (.bool false))]
theorem smranPe6 : ranAll Tryz.prog smov2 173 smPe6 = true := by decide +kernel
noncomputable def smPe7 : List (AV × AV) := [
  ((.cons smv197 (.cons smv193 .nil)), (.bool false)),
  ((.cons smv213 (.cons smv209 .nil)), (.bool false)),
  ((.cons smv219 (.cons smv209 .nil)), (.bool false)),
  ((.cons smv219 (.cons smv213 .nil)), (.bool false)),
  ((.cons smv223 (.cons smv209 .nil)), (.bool false)),
  ((.cons smv223 (.cons smv213 .nil)), (.bool false)),
  ((.cons smv223 (.cons smv219 .nil)), (.bool false)),
  ((.cons smv241 (.cons smv237 .nil)), (.bool false))]
theorem smranPe7 : ranAll Tryz.prog smov2 173 smPe7 = true := by decide +kernel
noncomputable def smPe8 : List (AV × AV) := [
  ((.cons smv247 (.cons smv237 .nil)), (.bool false)),
  ((.cons smv247 (.cons smv241 .nil)), (.bool false)),
  ((.cons smv251 (.cons smv237 .nil)), (.bool false)),
  ((.cons smv251 (.cons smv241 .nil)), (.bool false)),
  ((.cons smv251 (.cons smv247 .nil)), (.bool false)),
  ((.cons smv261 (.cons smv257 .nil)), (.bool false)),
  ((.cons smv265 (.cons smv257 .nil)), (.bool false)),
  ((.cons smv265 (.cons smv261 .nil)), (.bool false))]
theorem smranPe8 : ranAll Tryz.prog smov2 173 smPe8 = true := by decide +kernel
noncomputable def smPe9 : List (AV × AV) := [
  ((.cons smv269 (.cons smv257 .nil)), (.bool false)),
  ((.cons smv269 (.cons smv261 .nil)), (.bool false)),
  ((.cons smv269 (.cons smv265 .nil)), (.bool false)),
  ((.cons smv277 (.cons smv273 .nil)), (.bool false)),
  ((.cons smv281 (.cons smv273 .nil)), (.bool false)),
  ((.cons smv281 (.cons smv277 .nil)), (.bool false)),
  ((.cons smv285 (.cons smv273 .nil)), (.bool false)),
  ((.cons smv285 (.cons smv277 .nil)), (.bool false))]
theorem smranPe9 : ranAll Tryz.prog smov2 173 smPe9 = true := by decide +kernel
noncomputable def smPe10 : List (AV × AV) := [
  ((.cons smv285 (.cons smv281 .nil)), (.bool false)),
  ((.cons smv293 (.cons smv289 .nil)), (.bool false)),
  ((.cons smv297 (.cons smv289 .nil)), (.bool false)),
  ((.cons smv297 (.cons smv293 .nil)), (.bool false)),
  ((.cons smv301 (.cons smv289 .nil)), (.bool false)),
  ((.cons smv301 (.cons smv293 .nil)), (.bool false)),
  ((.cons smv301 (.cons smv297 .nil)), (.bool false)),
  ((.cons smv313 (.cons smv309 .nil)), (.bool false))]
theorem smranPe10 : ranAll Tryz.prog smov2 173 smPe10 = true := by decide +kernel
noncomputable def smPe11 : List (AV × AV) := [
  ((.cons smv317 (.cons smv309 .nil)), (.bool false)),
  ((.cons smv317 (.cons smv313 .nil)), (.bool false)),
  ((.cons smv321 (.cons smv309 .nil)), (.bool false)),
  ((.cons smv321 (.cons smv313 .nil)), (.bool false)),
  ((.cons smv321 (.cons smv317 .nil)), (.bool false)),
  ((.cons smv325 (.cons smv309 .nil)), (.bool false)),
  ((.cons smv325 (.cons smv313 .nil)), (.bool false)),
  ((.cons smv325 (.cons smv317 .nil)), (.bool false))]
theorem smranPe11 : ranAll Tryz.prog smov2 173 smPe11 = true := by decide +kernel
noncomputable def smPe12 : List (AV × AV) := [
  ((.cons smv325 (.cons smv321 .nil)), (.bool false)),
  ((.cons smv347 (.cons smv341 .nil)), (.bool false)),
  ((.cons smv351 (.cons smv341 .nil)), (.bool false)),
  ((.cons smv351 (.cons smv347 .nil)), (.bool false)),
  ((.cons smv357 (.cons smv341 .nil)), (.bool false)),
  ((.cons smv357 (.cons smv347 .nil)), (.bool false)),
  ((.cons smv357 (.cons smv351 .nil)), (.bool false)),
  ((.cons smv361 (.cons smv341 .nil)), (.bool false))]
theorem smranPe12 : ranAll Tryz.prog smov2 173 smPe12 = true := by decide +kernel
noncomputable def smPe13 : List (AV × AV) := [
  ((.cons smv361 (.cons smv347 .nil)), (.bool false)),
  ((.cons smv361 (.cons smv351 .nil)), (.bool false)),
  ((.cons smv361 (.cons smv357 .nil)), (.bool false)),
  ((.cons smv373 (.cons smv367 .nil)), (.bool false)),
  ((.cons smv381 (.cons smv377 .nil)), (.bool false)),
  ((.cons smv405 (.cons smv399 .nil)), (.bool false)),
  ((.cons smv409 (.cons smv399 .nil)), (.bool false)),
  ((.cons smv409 (.cons smv405 .nil)), (.bool false))]
theorem smranPe13 : ranAll Tryz.prog smov2 173 smPe13 = true := by decide +kernel
noncomputable def smPe14 : List (AV × AV) := [
  ((.cons smv415 (.cons smv399 .nil)), (.bool false)),
  ((.cons smv415 (.cons smv405 .nil)), (.bool false)),
  ((.cons smv415 (.cons smv409 .nil)), (.bool false)),
  ((.cons smv419 (.cons smv399 .nil)), (.bool false)),
  ((.cons smv419 (.cons smv405 .nil)), (.bool false)),
  ((.cons smv419 (.cons smv409 .nil)), (.bool false)),
  ((.cons smv419 (.cons smv415 .nil)), (.bool false)),
  ((.cons smv435 (.cons smv431 .nil)), (.bool false))]
theorem smranPe14 : ranAll Tryz.prog smov2 173 smPe14 = true := by decide +kernel
end Go.Sy
