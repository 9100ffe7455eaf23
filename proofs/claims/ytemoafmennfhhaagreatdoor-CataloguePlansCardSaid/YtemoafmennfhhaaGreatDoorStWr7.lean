/- Runs of sweep.Witness. -/
import Derived.Test.YtemoafmennfhhaaGreatDoorStWi
namespace Go.Sy
open Go.RowKit Go.Proofs
set_option linter.unusedVariables false
set_option maxRecDepth 1000000
set_option maxHeartbeats 0
theorem stwr3_0_2 : RanW gL3_0 (wiT stS3 1 stW3_2):=by decide +kernel
theorem stwr3_0_10 : RanW gL3_0 (wiT stS3 1 stW3_10):=by decide +kernel
theorem stwr3_0_18 : RanW gL3_0 (wiT stS3 1 stW3_18):=by decide +kernel
theorem stwr5_0_0 : RanW gL5_0 (wiT stS5 1 stW5_0):=by decide +kernel
theorem stwr3_1_2 : RanW gL3_1 (wiT stS3 2 stW3_2):=by decide +kernel
theorem stwr3_1_10 : RanW gL3_1 (wiT stS3 2 stW3_10):=by decide +kernel
theorem stwr3_1_18 : RanW gL3_1 (wiT stS3 2 stW3_18):=by decide +kernel
theorem stwr5_1_0 : RanW gL5_1 (wiT stS5 2 stW5_0):=by decide +kernel
theorem stwr3_2_2 : RanW gL3_2 (wiT stS3 3 stW3_2):=by decide +kernel
theorem stwr3_2_10 : RanW gL3_2 (wiT stS3 3 stW3_10):=by decide +kernel
theorem stwr3_2_18 : RanW gL3_2 (wiT stS3 3 stW3_18):=by decide +kernel
theorem stwr5_2_0 : RanW gL5_2 (wiT stS5 3 stW5_0):=by decide +kernel
theorem stwr3_3_2 : RanW gL3_3 (wiT stS3 4 stW3_2):=by decide +kernel
theorem stwr3_3_10 : RanW gL3_3 (wiT stS3 4 stW3_10):=by decide +kernel
theorem stwr3_3_18 : RanW gL3_3 (wiT stS3 4 stW3_18):=by decide +kernel
theorem stwr5_3_0 : RanW gL5_3 (wiT stS5 4 stW5_0):=by decide +kernel
end Go.Sy
namespace Go.Sy
open Go.RowKit Go.Proofs
set_option linter.unusedVariables false
set_option maxRecDepth 1000000
set_option maxHeartbeats 0
theorem stwr3_0_3 : RanW gL3_0 (wiT stS3 1 stW3_3):=by decide +kernel
theorem stwr3_0_11 : RanW gL3_0 (wiT stS3 1 stW3_11):=by decide +kernel
theorem stwr3_0_19 : RanW gL3_0 (wiT stS3 1 stW3_19):=by decide +kernel
theorem stwr5_0_1 : RanW gL5_0 (wiT stS5 1 stW5_1):=by decide +kernel
theorem stwr3_1_3 : RanW gL3_1 (wiT stS3 2 stW3_3):=by decide +kernel
theorem stwr3_1_11 : RanW gL3_1 (wiT stS3 2 stW3_11):=by decide +kernel
theorem stwr3_1_19 : RanW gL3_1 (wiT stS3 2 stW3_19):=by decide +kernel
theorem stwr5_1_1 : RanW gL5_1 (wiT stS5 2 stW5_1):=by decide +kernel
theorem stwr3_2_3 : RanW gL3_2 (wiT stS3 3 stW3_3):=by decide +kernel
theorem stwr3_2_11 : RanW gL3_2 (wiT stS3 3 stW3_11):=by decide +kernel
theorem stwr3_2_19 : RanW gL3_2 (wiT stS3 3 stW3_19):=by decide +kernel
theorem stwr5_2_1 : RanW gL5_2 (wiT stS5 3 stW5_1):=by decide +kernel
theorem stwr3_3_3 : RanW gL3_3 (wiT stS3 4 stW3_3):=by decide +kernel
theorem stwr3_3_11 : RanW gL3_3 (wiT stS3 4 stW3_11):=by decide +kernel
theorem stwr3_3_19 : RanW gL3_3 (wiT stS3 4 stW3_19):=by decide +kernel
theorem stwr5_3_1 : RanW gL5_3 (wiT stS5 4 stW5_1):=by decide +kernel
end Go.Sy
