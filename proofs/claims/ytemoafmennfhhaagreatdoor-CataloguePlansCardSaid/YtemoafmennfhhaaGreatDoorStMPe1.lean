/- Runs of dowel/solid.Penetrate. -/
import Derived.Test.YtemoafmennfhhaaGreatDoorStO1
namespace Go.Sy
open Go.RowKit Go.Proofs
set_option linter.unusedVariables false
set_option maxRecDepth 1000000
set_option maxHeartbeats 0
noncomputable def stPe30 : List (AV × AV):=[
  ((.cons (bxi 2 0 0 4 6 2) (.cons (bxi 0 0 0 2 6 6) .nil)),(.bool false)),
  ((.cons (bxi 2 0 4 4 6 6) (.cons (bxi 0 0 0 2 6 6) .nil)),(.bool false)),
  ((.cons (bxi 2 0 4 4 6 6) (.cons (bxi 2 0 0 4 6 2) .nil)),(.bool false)),
  ((.cons (bxi 2 0 2 4 2 4) (.cons (bxi 0 0 0 2 6 6) .nil)),(.bool false)),
  ((.cons (bxi 2 0 2 4 2 4) (.cons (bxi 2 0 0 4 6 2) .nil)),(.bool false)),
  ((.cons (bxi 2 0 2 4 2 4) (.cons (bxi 2 0 4 4 6 6) .nil)),(.bool false)),
  ((.cons (bxi 2 4 2 4 6 4) (.cons (bxi 0 0 0 2 6 6) .nil)),(.bool false)),
  ((.cons (bxi 2 4 2 4 6 4) (.cons (bxi 2 0 0 4 6 2) .nil)),(.bool false)),
  ((.cons (bxi 2 4 2 4 6 4) (.cons (bxi 2 0 4 4 6 6) .nil)),(.bool false)),
  ((.cons (bxi 2 0 0 6 6 2) (.cons (bxi 0 0 0 2 6 6) .nil)),(.bool false)),
  ((.cons (bxi 2 0 4 6 6 6) (.cons (bxi 0 0 0 2 6 6) .nil)),(.bool false)),
  ((.cons (bxi 2 0 4 6 6 6) (.cons (bxi 2 0 0 6 6 2) .nil)),(.bool false)),
  ((.cons (bxi 2 0 2 6 2 4) (.cons (bxi 0 0 0 2 6 6) .nil)),(.bool false)),
  ((.cons (bxi 2 0 2 6 2 4) (.cons (bxi 2 0 0 6 6 2) .nil)),(.bool false)),
  ((.cons (bxi 2 0 2 6 2 4) (.cons (bxi 2 0 4 6 6 6) .nil)),(.bool false)),
  ((.cons (bxi 2 4 2 6 6 4) (.cons (bxi 0 0 0 2 6 6) .nil)),(.bool false)),
  ((.cons (bxi 2 4 2 6 6 4) (.cons (bxi 2 0 0 6 6 2) .nil)),(.bool false)),
  ((.cons (bxi 2 4 2 6 6 4) (.cons (bxi 2 0 4 6 6 6) .nil)),(.bool false)),
  ((.cons (bxi 2 0 0 8 6 2) (.cons (bxi 0 0 0 2 6 6) .nil)),(.bool false)),
  ((.cons (bxi 2 0 4 8 6 6) (.cons (bxi 0 0 0 2 6 6) .nil)),(.bool false)),
  ((.cons (bxi 2 0 4 8 6 6) (.cons (bxi 2 0 0 8 6 2) .nil)),(.bool false)),
  ((.cons (bxi 2 0 2 8 2 4) (.cons (bxi 0 0 0 2 6 6) .nil)),(.bool false)),
  ((.cons (bxi 2 0 2 8 2 4) (.cons (bxi 2 0 0 8 6 2) .nil)),(.bool false)),
  ((.cons (bxi 2 0 2 8 2 4) (.cons (bxi 2 0 4 8 6 6) .nil)),(.bool false))]
theorem stranPe30 : ranAll Tryz.prog stov2 268 stPe30 = true:=by decide +kernel
noncomputable def stPe31 : List (AV × AV):=[
  ((.cons (bxi 2 4 2 8 6 4) (.cons (bxi 0 0 0 2 6 6) .nil)),(.bool false)),
  ((.cons (bxi 2 4 2 8 6 4) (.cons (bxi 2 0 0 8 6 2) .nil)),(.bool false)),
  ((.cons (bxi 2 4 2 8 6 4) (.cons (bxi 2 0 4 8 6 6) .nil)),(.bool false)),
  ((.cons (bxi 2 0 0 10 6 2) (.cons (bxi 0 0 0 2 6 6) .nil)),(.bool false)),
  ((.cons (bxi 2 0 4 10 6 6) (.cons (bxi 0 0 0 2 6 6) .nil)),(.bool false)),
  ((.cons (bxi 2 0 4 10 6 6) (.cons (bxi 2 0 0 10 6 2) .nil)),(.bool false)),
  ((.cons (bxi 2 0 2 10 2 4) (.cons (bxi 0 0 0 2 6 6) .nil)),(.bool false)),
  ((.cons (bxi 2 0 2 10 2 4) (.cons (bxi 2 0 0 10 6 2) .nil)),(.bool false)),
  ((.cons (bxi 2 0 2 10 2 4) (.cons (bxi 2 0 4 10 6 6) .nil)),(.bool false)),
  ((.cons (bxi 2 4 2 10 6 4) (.cons (bxi 0 0 0 2 6 6) .nil)),(.bool false)),
  ((.cons (bxi 2 4 2 10 6 4) (.cons (bxi 2 0 0 10 6 2) .nil)),(.bool false)),
  ((.cons (bxi 2 4 2 10 6 4) (.cons (bxi 2 0 4 10 6 6) .nil)),(.bool false)),
  ((.cons (bxi 2 4 2 10 6 4) (.cons (bxi 2 0 2 10 2 4) .nil)),(.bool false))]
theorem stranPe31 : ranAll Tryz.prog stov2 268 stPe31 = true:=by decide +kernel
noncomputable def stPe32 : List (AV × AV):=[
  ((.cons (bxi 3 0 0 6 9 3) (.cons (bxi 0 0 0 3 9 9) .nil)),(.bool false)),
  ((.cons (bxi 3 0 6 6 9 9) (.cons (bxi 0 0 0 3 9 9) .nil)),(.bool false)),
  ((.cons (bxi 3 0 6 6 9 9) (.cons (bxi 3 0 0 6 9 3) .nil)),(.bool false)),
  ((.cons (bxi 3 0 3 6 3 6) (.cons (bxi 0 0 0 3 9 9) .nil)),(.bool false)),
  ((.cons (bxi 3 0 3 6 3 6) (.cons (bxi 3 0 0 6 9 3) .nil)),(.bool false)),
  ((.cons (bxi 3 0 3 6 3 6) (.cons (bxi 3 0 6 6 9 9) .nil)),(.bool false)),
  ((.cons (bxi 3 6 3 6 9 6) (.cons (bxi 0 0 0 3 9 9) .nil)),(.bool false)),
  ((.cons (bxi 3 6 3 6 9 6) (.cons (bxi 3 0 0 6 9 3) .nil)),(.bool false)),
  ((.cons (bxi 3 6 3 6 9 6) (.cons (bxi 3 0 6 6 9 9) .nil)),(.bool false)),
  ((.cons (bxi 3 0 0 9 9 3) (.cons (bxi 0 0 0 3 9 9) .nil)),(.bool false)),
  ((.cons (bxi 3 0 6 9 9 9) (.cons (bxi 0 0 0 3 9 9) .nil)),(.bool false)),
  ((.cons (bxi 3 0 6 9 9 9) (.cons (bxi 3 0 0 9 9 3) .nil)),(.bool false)),
  ((.cons (bxi 3 0 3 9 3 6) (.cons (bxi 0 0 0 3 9 9) .nil)),(.bool false)),
  ((.cons (bxi 3 0 3 9 3 6) (.cons (bxi 3 0 0 9 9 3) .nil)),(.bool false)),
  ((.cons (bxi 3 0 3 9 3 6) (.cons (bxi 3 0 6 9 9 9) .nil)),(.bool false)),
  ((.cons (bxi 3 6 3 9 9 6) (.cons (bxi 0 0 0 3 9 9) .nil)),(.bool false)),
  ((.cons (bxi 3 6 3 9 9 6) (.cons (bxi 3 0 0 9 9 3) .nil)),(.bool false)),
  ((.cons (bxi 3 6 3 9 9 6) (.cons (bxi 3 0 6 9 9 9) .nil)),(.bool false)),
  ((.cons (bxi 3 0 0 12 9 3) (.cons (bxi 0 0 0 3 9 9) .nil)),(.bool false)),
  ((.cons (bxi 3 0 6 12 9 9) (.cons (bxi 0 0 0 3 9 9) .nil)),(.bool false)),
  ((.cons (bxi 3 0 6 12 9 9) (.cons (bxi 3 0 0 12 9 3) .nil)),(.bool false)),
  ((.cons (bxi 3 0 3 12 3 6) (.cons (bxi 0 0 0 3 9 9) .nil)),(.bool false)),
  ((.cons (bxi 3 0 3 12 3 6) (.cons (bxi 3 0 0 12 9 3) .nil)),(.bool false)),
  ((.cons (bxi 3 0 3 12 3 6) (.cons (bxi 3 0 6 12 9 9) .nil)),(.bool false))]
theorem stranPe32 : ranAll Tryz.prog stov2 268 stPe32 = true:=by decide +kernel
noncomputable def stPe33 : List (AV × AV):=[
  ((.cons (bxi 3 6 3 12 9 6) (.cons (bxi 0 0 0 3 9 9) .nil)),(.bool false)),
  ((.cons (bxi 3 6 3 12 9 6) (.cons (bxi 3 0 0 12 9 3) .nil)),(.bool false)),
  ((.cons (bxi 3 6 3 12 9 6) (.cons (bxi 3 0 6 12 9 9) .nil)),(.bool false)),
  ((.cons (bxi 3 0 0 15 9 3) (.cons (bxi 0 0 0 3 9 9) .nil)),(.bool false)),
  ((.cons (bxi 3 0 6 15 9 9) (.cons (bxi 0 0 0 3 9 9) .nil)),(.bool false)),
  ((.cons (bxi 3 0 6 15 9 9) (.cons (bxi 3 0 0 15 9 3) .nil)),(.bool false)),
  ((.cons (bxi 3 0 3 15 3 6) (.cons (bxi 0 0 0 3 9 9) .nil)),(.bool false)),
  ((.cons (bxi 3 0 3 15 3 6) (.cons (bxi 3 0 0 15 9 3) .nil)),(.bool false)),
  ((.cons (bxi 3 0 3 15 3 6) (.cons (bxi 3 0 6 15 9 9) .nil)),(.bool false)),
  ((.cons (bxi 3 6 3 15 9 6) (.cons (bxi 0 0 0 3 9 9) .nil)),(.bool false)),
  ((.cons (bxi 3 6 3 15 9 6) (.cons (bxi 3 0 0 15 9 3) .nil)),(.bool false)),
  ((.cons (bxi 3 6 3 15 9 6) (.cons (bxi 3 0 6 15 9 9) .nil)),(.bool false)),
  ((.cons (bxi 3 6 3 15 9 6) (.cons (bxi 3 0 3 15 3 6) .nil)),(.bool false))]
theorem stranPe33 : ranAll Tryz.prog stov2 268 stPe33 = true:=by decide +kernel
noncomputable def stPe34 : List (AV × AV):=[
  ((.cons (bxi 4 0 0 8 12 4) (.cons (bxi 0 0 0 4 12 12) .nil)),(.bool false)),
  ((.cons (bxi 4 0 8 8 12 12) (.cons (bxi 0 0 0 4 12 12) .nil)),(.bool false)),
  ((.cons (bxi 4 0 8 8 12 12) (.cons (bxi 4 0 0 8 12 4) .nil)),(.bool false)),
  ((.cons (bxi 4 0 4 8 4 8) (.cons (bxi 0 0 0 4 12 12) .nil)),(.bool false)),
  ((.cons (bxi 4 0 4 8 4 8) (.cons (bxi 4 0 0 8 12 4) .nil)),(.bool false)),
  ((.cons (bxi 4 0 4 8 4 8) (.cons (bxi 4 0 8 8 12 12) .nil)),(.bool false)),
  ((.cons (bxi 4 8 4 8 12 8) (.cons (bxi 0 0 0 4 12 12) .nil)),(.bool false)),
  ((.cons (bxi 4 8 4 8 12 8) (.cons (bxi 4 0 0 8 12 4) .nil)),(.bool false)),
  ((.cons (bxi 4 8 4 8 12 8) (.cons (bxi 4 0 8 8 12 12) .nil)),(.bool false)),
  ((.cons (bxi 4 0 0 12 12 4) (.cons (bxi 0 0 0 4 12 12) .nil)),(.bool false)),
  ((.cons (bxi 4 0 8 12 12 12) (.cons (bxi 0 0 0 4 12 12) .nil)),(.bool false)),
  ((.cons (bxi 4 0 8 12 12 12) (.cons (bxi 4 0 0 12 12 4) .nil)),(.bool false)),
  ((.cons (bxi 4 0 4 12 4 8) (.cons (bxi 0 0 0 4 12 12) .nil)),(.bool false)),
  ((.cons (bxi 4 0 4 12 4 8) (.cons (bxi 4 0 0 12 12 4) .nil)),(.bool false)),
  ((.cons (bxi 4 0 4 12 4 8) (.cons (bxi 4 0 8 12 12 12) .nil)),(.bool false)),
  ((.cons (bxi 4 8 4 12 12 8) (.cons (bxi 0 0 0 4 12 12) .nil)),(.bool false)),
  ((.cons (bxi 4 8 4 12 12 8) (.cons (bxi 4 0 0 12 12 4) .nil)),(.bool false)),
  ((.cons (bxi 4 8 4 12 12 8) (.cons (bxi 4 0 8 12 12 12) .nil)),(.bool false)),
  ((.cons (bxi 4 0 0 16 12 4) (.cons (bxi 0 0 0 4 12 12) .nil)),(.bool false)),
  ((.cons (bxi 4 0 8 16 12 12) (.cons (bxi 0 0 0 4 12 12) .nil)),(.bool false)),
  ((.cons (bxi 4 0 8 16 12 12) (.cons (bxi 4 0 0 16 12 4) .nil)),(.bool false)),
  ((.cons (bxi 4 0 4 16 4 8) (.cons (bxi 0 0 0 4 12 12) .nil)),(.bool false)),
  ((.cons (bxi 4 0 4 16 4 8) (.cons (bxi 4 0 0 16 12 4) .nil)),(.bool false)),
  ((.cons (bxi 4 0 4 16 4 8) (.cons (bxi 4 0 8 16 12 12) .nil)),(.bool false))]
theorem stranPe34 : ranAll Tryz.prog stov2 268 stPe34 = true:=by decide +kernel
noncomputable def stPe35 : List (AV × AV):=[
  ((.cons (bxi 4 8 4 16 12 8) (.cons (bxi 0 0 0 4 12 12) .nil)),(.bool false)),
  ((.cons (bxi 4 8 4 16 12 8) (.cons (bxi 4 0 0 16 12 4) .nil)),(.bool false)),
  ((.cons (bxi 4 8 4 16 12 8) (.cons (bxi 4 0 8 16 12 12) .nil)),(.bool false)),
  ((.cons (bxi 4 0 0 20 12 4) (.cons (bxi 0 0 0 4 12 12) .nil)),(.bool false)),
  ((.cons (bxi 4 0 8 20 12 12) (.cons (bxi 0 0 0 4 12 12) .nil)),(.bool false)),
  ((.cons (bxi 4 0 8 20 12 12) (.cons (bxi 4 0 0 20 12 4) .nil)),(.bool false)),
  ((.cons (bxi 4 0 4 20 4 8) (.cons (bxi 0 0 0 4 12 12) .nil)),(.bool false)),
  ((.cons (bxi 4 0 4 20 4 8) (.cons (bxi 4 0 0 20 12 4) .nil)),(.bool false)),
  ((.cons (bxi 4 0 4 20 4 8) (.cons (bxi 4 0 8 20 12 12) .nil)),(.bool false)),
  ((.cons (bxi 4 8 4 20 12 8) (.cons (bxi 0 0 0 4 12 12) .nil)),(.bool false)),
  ((.cons (bxi 4 8 4 20 12 8) (.cons (bxi 4 0 0 20 12 4) .nil)),(.bool false)),
  ((.cons (bxi 4 8 4 20 12 8) (.cons (bxi 4 0 8 20 12 12) .nil)),(.bool false)),
  ((.cons (bxi 4 8 4 20 12 8) (.cons (bxi 4 0 4 20 4 8) .nil)),(.bool false))]
theorem stranPe35 : ranAll Tryz.prog stov2 268 stPe35 = true:=by decide +kernel
end Go.Sy
