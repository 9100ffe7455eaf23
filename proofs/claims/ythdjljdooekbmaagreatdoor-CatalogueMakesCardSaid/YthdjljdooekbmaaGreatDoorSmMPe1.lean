/- Runs of dowel/solid.Penetrate. -/
import Derived.Test.YthdjljdooekbmaaGreatDoorSmO1
namespace Go.Sy
open Go.RowKit Go.Proofs
set_option linter.unusedVariables false
set_option maxRecDepth 1000000
set_option maxHeartbeats 0
noncomputable def smPe15 : List (AV × AV) := [
  ((.cons smv441 (.cons smv431 .nil)), (.bool false)),
  ((.cons smv441 (.cons smv435 .nil)), (.bool false)),
  ((.cons smv445 (.cons smv431 .nil)), (.bool false)),
  ((.cons smv445 (.cons smv435 .nil)), (.bool false)),
  ((.cons smv445 (.cons smv441 .nil)), (.bool false)),
  ((.cons smv455 (.cons smv451 .nil)), (.bool false)),
  ((.cons smv459 (.cons smv451 .nil)), (.bool false)),
  ((.cons smv459 (.cons smv455 .nil)), (.bool false))]
theorem smranPe15 : ranAll Tryz.prog smov2 173 smPe15 = true := by decide +kernel
noncomputable def smPe16 : List (AV × AV) := [
  ((.cons smv463 (.cons smv451 .nil)), (.bool false)),
  ((.cons smv463 (.cons smv455 .nil)), (.bool false)),
  ((.cons smv463 (.cons smv459 .nil)), (.bool false)),
  ((.cons smv475 (.cons smv471 .nil)), (.bool false)),
  ((.cons smv479 (.cons smv471 .nil)), (.bool false)),
  ((.cons smv479 (.cons smv475 .nil)), (.bool false)),
  ((.cons smv485 (.cons smv471 .nil)), (.bool false)),
  ((.cons smv485 (.cons smv475 .nil)), (.bool false))]
theorem smranPe16 : ranAll Tryz.prog smov2 173 smPe16 = true := by decide +kernel
noncomputable def smPe17 : List (AV × AV) := [
  ((.cons smv485 (.cons smv479 .nil)), (.bool false)),
  ((.cons smv489 (.cons smv471 .nil)), (.bool false)),
  ((.cons smv489 (.cons smv475 .nil)), (.bool false)),
  ((.cons smv489 (.cons smv479 .nil)), (.bool false)),
  ((.cons smv489 (.cons smv485 .nil)), (.bool false)),
  ((.cons smv117 (.cons smv87 .nil)), (.bool false)),
  ((.cons smv117 (.cons smv95 .nil)), (.bool false)),
  ((.cons smv117 (.cons smv99 .nil)), (.bool false))]
theorem smranPe17 : ranAll Tryz.prog smov2 173 smPe17 = true := by decide +kernel
noncomputable def smPe18 : List (AV × AV) := [
  ((.cons smv137 (.cons smv87 .nil)), (.bool false)),
  ((.cons smv137 (.cons smv95 .nil)), (.bool false)),
  ((.cons smv137 (.cons smv99 .nil)), (.bool false)),
  ((.cons smv137 (.cons smv117 .nil)), (.bool false)),
  ((.cons smv521 (.cons smv515 .nil)), (.bool false)),
  ((.cons smv525 (.cons smv515 .nil)), (.bool false)),
  ((.cons smv525 (.cons smv521 .nil)), (.bool false)),
  ((.cons smv529 (.cons smv515 .nil)), (.bool false))]
theorem smranPe18 : ranAll Tryz.prog smov2 173 smPe18 = true := by decide +kernel
noncomputable def smPe19 : List (AV × AV) := [
  ((.cons smv529 (.cons smv521 .nil)), (.bool false)),
  ((.cons smv529 (.cons smv525 .nil)), (.bool false)),
  ((.cons smv533 (.cons smv515 .nil)), (.bool false)),
  ((.cons smv533 (.cons smv521 .nil)), (.bool false)),
  ((.cons smv533 (.cons smv525 .nil)), (.bool false)),
  ((.cons smv533 (.cons smv529 .nil)), (.bool false)),
  ((.cons smv547 (.cons smv309 .nil)), (.bool false)),
  ((.cons smv551 (.cons smv309 .nil)), (.bool false))]
theorem smranPe19 : ranAll Tryz.prog smov2 173 smPe19 = true := by decide +kernel
noncomputable def smPe20 : List (AV × AV) := [
  ((.cons smv551 (.cons smv547 .nil)), (.bool false)),
  ((.cons smv557 (.cons smv309 .nil)), (.bool false)),
  ((.cons smv557 (.cons smv547 .nil)), (.bool false)),
  ((.cons smv557 (.cons smv551 .nil)), (.bool false)),
  ((.cons smv561 (.cons smv309 .nil)), (.bool false)),
  ((.cons smv561 (.cons smv547 .nil)), (.bool false)),
  ((.cons smv561 (.cons smv551 .nil)), (.bool false)),
  ((.cons smv561 (.cons smv557 .nil)), (.bool false))]
theorem smranPe20 : ranAll Tryz.prog smov2 173 smPe20 = true := by decide +kernel
noncomputable def smPe21 : List (AV × AV) := [
  ((.cons smv521 (.cons smv573 .nil)), (.bool false)),
  ((.cons smv577 (.cons smv573 .nil)), (.bool false)),
  ((.cons smv577 (.cons smv521 .nil)), (.bool false)),
  ((.cons smv581 (.cons smv573 .nil)), (.bool false)),
  ((.cons smv581 (.cons smv521 .nil)), (.bool false)),
  ((.cons smv581 (.cons smv577 .nil)), (.bool false)),
  ((.cons smv585 (.cons smv573 .nil)), (.bool false)),
  ((.cons smv585 (.cons smv521 .nil)), (.bool false))]
theorem smranPe21 : ranAll Tryz.prog smov2 173 smPe21 = true := by decide +kernel
noncomputable def smPe22 : List (AV × AV) := [
  ((.cons smv585 (.cons smv577 .nil)), (.bool false)),
  ((.cons smv585 (.cons smv581 .nil)), (.bool false)),
  ((.cons smv601 (.cons smv399 .nil)), (.bool false)),
  ((.cons smv605 (.cons smv399 .nil)), (.bool false)),
  ((.cons smv605 (.cons smv601 .nil)), (.bool false)),
  ((.cons smv611 (.cons smv399 .nil)), (.bool false)),
  ((.cons smv611 (.cons smv601 .nil)), (.bool false)),
  ((.cons smv611 (.cons smv605 .nil)), (.bool false))]
theorem smranPe22 : ranAll Tryz.prog smov2 173 smPe22 = true := by decide +kernel
noncomputable def smPe23 : List (AV × AV) := [
  ((.cons smv615 (.cons smv399 .nil)), (.bool false)),
  ((.cons smv615 (.cons smv601 .nil)), (.bool false)),
  ((.cons smv615 (.cons smv605 .nil)), (.bool false)),
  ((.cons smv615 (.cons smv611 .nil)), (.bool false)),
  ((.cons smv631 (.cons smv627 .nil)), (.bool false)),
  ((.cons smv635 (.cons smv627 .nil)), (.bool false)),
  ((.cons smv635 (.cons smv631 .nil)), (.bool false)),
  ((.cons smv639 (.cons smv627 .nil)), (.bool false))]
theorem smranPe23 : ranAll Tryz.prog smov2 173 smPe23 = true := by decide +kernel
noncomputable def smPe24 : List (AV × AV) := [
  ((.cons smv639 (.cons smv631 .nil)), (.bool false)),
  ((.cons smv639 (.cons smv635 .nil)), (.bool false)),
  ((.cons smv649 (.cons smv645 .nil)), (.bool false)),
  ((.cons smv653 (.cons smv645 .nil)), (.bool false)),
  ((.cons smv653 (.cons smv649 .nil)), (.bool false)),
  ((.cons smv659 (.cons smv645 .nil)), (.bool false)),
  ((.cons smv659 (.cons smv649 .nil)), (.bool false)),
  ((.cons smv659 (.cons smv653 .nil)), (.bool false))]
theorem smranPe24 : ranAll Tryz.prog smov2 173 smPe24 = true := by decide +kernel
noncomputable def smPe25 : List (AV × AV) := [
  ((.cons smv663 (.cons smv645 .nil)), (.bool false)),
  ((.cons smv663 (.cons smv649 .nil)), (.bool false)),
  ((.cons smv663 (.cons smv653 .nil)), (.bool false)),
  ((.cons smv663 (.cons smv659 .nil)), (.bool false)),
  ((.cons smv669 (.cons smv573 .nil)), (.bool false)),
  ((.cons smv669 (.cons smv521 .nil)), (.bool false)),
  ((.cons smv669 (.cons smv577 .nil)), (.bool false)),
  ((.cons smv673 (.cons smv573 .nil)), (.bool false))]
theorem smranPe25 : ranAll Tryz.prog smov2 173 smPe25 = true := by decide +kernel
noncomputable def smPe26 : List (AV × AV) := [
  ((.cons smv673 (.cons smv521 .nil)), (.bool false)),
  ((.cons smv673 (.cons smv577 .nil)), (.bool false)),
  ((.cons smv673 (.cons smv669 .nil)), (.bool false)),
  ((.cons smv679 (.cons smv581 .nil)), (.bool false)),
  ((.cons smv687 (.cons smv683 .nil)), (.bool false)),
  ((.cons smv691 (.cons smv585 .nil)), (.bool false)),
  ((.cons smv699 (.cons smv695 .nil)), (.bool false)),
  ((.cons smv703 (.cons smv695 .nil)), (.bool false))]
theorem smranPe26 : ranAll Tryz.prog smov2 173 smPe26 = true := by decide +kernel
noncomputable def smPe27 : List (AV × AV) := [
  ((.cons smv703 (.cons smv699 .nil)), (.bool false)),
  ((.cons smv149 (.cons smv695 .nil)), (.bool false)),
  ((.cons smv149 (.cons smv699 .nil)), (.bool false)),
  ((.cons smv149 (.cons smv703 .nil)), (.bool false)),
  ((.cons smv707 (.cons smv695 .nil)), (.bool false)),
  ((.cons smv707 (.cons smv699 .nil)), (.bool false)),
  ((.cons smv707 (.cons smv703 .nil)), (.bool false)),
  ((.cons smv707 (.cons smv149 .nil)), (.bool false))]
theorem smranPe27 : ranAll Tryz.prog smov2 173 smPe27 = true := by decide +kernel
noncomputable def smPe28 : List (AV × AV) := [
  ((.cons smv729 (.cons smv209 .nil)), (.bool false)),
  ((.cons smv729 (.cons smv213 .nil)), (.bool false)),
  ((.cons smv733 (.cons smv209 .nil)), (.bool false)),
  ((.cons smv733 (.cons smv213 .nil)), (.bool false)),
  ((.cons smv733 (.cons smv729 .nil)), (.bool false)),
  ((.cons smv739 (.cons smv209 .nil)), (.bool false)),
  ((.cons smv739 (.cons smv213 .nil)), (.bool false)),
  ((.cons smv739 (.cons smv729 .nil)), (.bool false))]
theorem smranPe28 : ranAll Tryz.prog smov2 173 smPe28 = true := by decide +kernel
noncomputable def smPe29 : List (AV × AV) := [
  ((.cons smv739 (.cons smv733 .nil)), (.bool false)),
  ((.cons smv743 (.cons smv209 .nil)), (.bool false)),
  ((.cons smv743 (.cons smv213 .nil)), (.bool false)),
  ((.cons smv743 (.cons smv729 .nil)), (.bool false)),
  ((.cons smv743 (.cons smv733 .nil)), (.bool false)),
  ((.cons smv743 (.cons smv739 .nil)), (.bool false)),
  ((.cons smv759 (.cons smv755 .nil)), (.bool false)),
  ((.cons smv763 (.cons smv755 .nil)), (.bool false))]
theorem smranPe29 : ranAll Tryz.prog smov2 173 smPe29 = true := by decide +kernel
end Go.Sy
