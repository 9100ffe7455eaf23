/- What Known returns. -/
import Derived.Test.YtpbjekedjbjeeaaGreatDoorStO5
import Derived.Test.YtpbjekedjbjeeaaGreatDoorSyE9
namespace Go.Sy
open Go.RowKit Go.Proofs
set_option linter.unusedVariables false
set_option maxRecDepth 1000000
set_option maxHeartbeats 0
noncomputable def stKnown : List (AV × AV) := [(.nil, .bool true)]
theorem stranKnown : ranAll Tryz.prog stov6 4 stKnown = true := by decide +kernel
theorem c_known21 : @PF tb1 Tryz.prog 4 .nil (.bool true) :=
  (ranAll_ok p_mixed p_callable stov6_ok (by decide) stranKnown _ (.head _)).1
end Go.Sy
