/- Runs of sweep.Witness. -/
import Derived.Test.YtemoafmennfhhaaGreatDoorStWi
namespace Go.Sy
open Go.RowKit Go.Proofs
set_option linter.unusedVariables false
set_option maxRecDepth 1000000
set_option maxHeartbeats 0
theorem stwr0_0_0 : RanW gL0_0 (wiT stS0 1 stW0_0):=by decide +kernel
theorem stwr3_0_4 : RanW gL3_0 (wiT stS3 1 stW3_4):=by decide +kernel
theorem stwr3_0_12 : RanW gL3_0 (wiT stS3 1 stW3_12):=by decide +kernel
theorem stwr3_0_20 : RanW gL3_0 (wiT stS3 1 stW3_20):=by decide +kernel
theorem stwr0_1_0 : RanW gL0_1 (wiT stS0 2 stW0_0):=by decide +kernel
theorem stwr3_1_4 : RanW gL3_1 (wiT stS3 2 stW3_4):=by decide +kernel
theorem stwr3_1_12 : RanW gL3_1 (wiT stS3 2 stW3_12):=by decide +kernel
theorem stwr3_1_20 : RanW gL3_1 (wiT stS3 2 stW3_20):=by decide +kernel
theorem stwr0_2_0 : RanW gL0_2 (wiT stS0 3 stW0_0):=by decide +kernel
theorem stwr3_2_4 : RanW gL3_2 (wiT stS3 3 stW3_4):=by decide +kernel
theorem stwr3_2_12 : RanW gL3_2 (wiT stS3 3 stW3_12):=by decide +kernel
theorem stwr3_2_20 : RanW gL3_2 (wiT stS3 3 stW3_20):=by decide +kernel
theorem stwr0_3_0 : RanW gL0_3 (wiT stS0 4 stW0_0):=by decide +kernel
theorem stwr3_3_4 : RanW gL3_3 (wiT stS3 4 stW3_4):=by decide +kernel
theorem stwr3_3_12 : RanW gL3_3 (wiT stS3 4 stW3_12):=by decide +kernel
theorem stwr3_3_20 : RanW gL3_3 (wiT stS3 4 stW3_20):=by decide +kernel
end Go.Sy
namespace Go.Sy
open Go.RowKit Go.Proofs
set_option linter.unusedVariables false
set_option maxRecDepth 1000000
set_option maxHeartbeats 0
theorem stwr1_0_0 : RanW gL1_0 (wiT stS1 1 stW1_0):=by decide +kernel
theorem stwr3_0_5 : RanW gL3_0 (wiT stS3 1 stW3_5):=by decide +kernel
theorem stwr3_0_13 : RanW gL3_0 (wiT stS3 1 stW3_13):=by decide +kernel
theorem stwr3_0_21 : RanW gL3_0 (wiT stS3 1 stW3_21):=by decide +kernel
theorem stwr1_1_0 : RanW gL1_1 (wiT stS1 2 stW1_0):=by decide +kernel
theorem stwr3_1_5 : RanW gL3_1 (wiT stS3 2 stW3_5):=by decide +kernel
theorem stwr3_1_13 : RanW gL3_1 (wiT stS3 2 stW3_13):=by decide +kernel
theorem stwr3_1_21 : RanW gL3_1 (wiT stS3 2 stW3_21):=by decide +kernel
theorem stwr1_2_0 : RanW gL1_2 (wiT stS1 3 stW1_0):=by decide +kernel
theorem stwr3_2_5 : RanW gL3_2 (wiT stS3 3 stW3_5):=by decide +kernel
theorem stwr3_2_13 : RanW gL3_2 (wiT stS3 3 stW3_13):=by decide +kernel
theorem stwr3_2_21 : RanW gL3_2 (wiT stS3 3 stW3_21):=by decide +kernel
theorem stwr1_3_0 : RanW gL1_3 (wiT stS1 4 stW1_0):=by decide +kernel
theorem stwr3_3_5 : RanW gL3_3 (wiT stS3 4 stW3_5):=by decide +kernel
theorem stwr3_3_13 : RanW gL3_3 (wiT stS3 4 stW3_13):=by decide +kernel
theorem stwr3_3_21 : RanW gL3_3 (wiT stS3 4 stW3_21):=by decide +kernel
end Go.Sy
