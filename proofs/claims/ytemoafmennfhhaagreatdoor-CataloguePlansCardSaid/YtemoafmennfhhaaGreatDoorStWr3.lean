/- Runs of sweep.Witness. -/
import Derived.Test.YtemoafmennfhhaaGreatDoorStWi
namespace Go.Sy
open Go.RowKit Go.Proofs
set_option linter.unusedVariables false
set_option maxRecDepth 1000000
set_option maxHeartbeats 0
theorem stwr2_0_0 : RanW gL2_0 (wiT stS2 1 stW2_0):=by decide +kernel
theorem stwr3_0_6 : RanW gL3_0 (wiT stS3 1 stW3_6):=by decide +kernel
theorem stwr3_0_14 : RanW gL3_0 (wiT stS3 1 stW3_14):=by decide +kernel
theorem stwr3_0_22 : RanW gL3_0 (wiT stS3 1 stW3_22):=by decide +kernel
theorem stwr2_1_0 : RanW gL2_1 (wiT stS2 2 stW2_0):=by decide +kernel
theorem stwr3_1_6 : RanW gL3_1 (wiT stS3 2 stW3_6):=by decide +kernel
theorem stwr3_1_14 : RanW gL3_1 (wiT stS3 2 stW3_14):=by decide +kernel
theorem stwr3_1_22 : RanW gL3_1 (wiT stS3 2 stW3_22):=by decide +kernel
theorem stwr2_2_0 : RanW gL2_2 (wiT stS2 3 stW2_0):=by decide +kernel
theorem stwr3_2_6 : RanW gL3_2 (wiT stS3 3 stW3_6):=by decide +kernel
theorem stwr3_2_14 : RanW gL3_2 (wiT stS3 3 stW3_14):=by decide +kernel
theorem stwr3_2_22 : RanW gL3_2 (wiT stS3 3 stW3_22):=by decide +kernel
theorem stwr2_3_0 : RanW gL2_3 (wiT stS2 4 stW2_0):=by decide +kernel
theorem stwr3_3_6 : RanW gL3_3 (wiT stS3 4 stW3_6):=by decide +kernel
theorem stwr3_3_14 : RanW gL3_3 (wiT stS3 4 stW3_14):=by decide +kernel
theorem stwr3_3_22 : RanW gL3_3 (wiT stS3 4 stW3_22):=by decide +kernel
end Go.Sy
namespace Go.Sy
open Go.RowKit Go.Proofs
set_option linter.unusedVariables false
set_option maxRecDepth 1000000
set_option maxHeartbeats 0
theorem stwr2_0_1 : RanW gL2_0 (wiT stS2 1 stW2_1):=by decide +kernel
theorem stwr3_0_7 : RanW gL3_0 (wiT stS3 1 stW3_7):=by decide +kernel
theorem stwr3_0_15 : RanW gL3_0 (wiT stS3 1 stW3_15):=by decide +kernel
theorem stwr3_0_23 : RanW gL3_0 (wiT stS3 1 stW3_23):=by decide +kernel
theorem stwr2_1_1 : RanW gL2_1 (wiT stS2 2 stW2_1):=by decide +kernel
theorem stwr3_1_7 : RanW gL3_1 (wiT stS3 2 stW3_7):=by decide +kernel
theorem stwr3_1_15 : RanW gL3_1 (wiT stS3 2 stW3_15):=by decide +kernel
theorem stwr3_1_23 : RanW gL3_1 (wiT stS3 2 stW3_23):=by decide +kernel
theorem stwr2_2_1 : RanW gL2_2 (wiT stS2 3 stW2_1):=by decide +kernel
theorem stwr3_2_7 : RanW gL3_2 (wiT stS3 3 stW3_7):=by decide +kernel
theorem stwr3_2_15 : RanW gL3_2 (wiT stS3 3 stW3_15):=by decide +kernel
theorem stwr3_2_23 : RanW gL3_2 (wiT stS3 3 stW3_23):=by decide +kernel
theorem stwr2_3_1 : RanW gL2_3 (wiT stS2 4 stW2_1):=by decide +kernel
theorem stwr3_3_7 : RanW gL3_3 (wiT stS3 4 stW3_7):=by decide +kernel
theorem stwr3_3_15 : RanW gL3_3 (wiT stS3 4 stW3_15):=by decide +kernel
theorem stwr3_3_23 : RanW gL3_3 (wiT stS3 4 stW3_23):=by decide +kernel
end Go.Sy
