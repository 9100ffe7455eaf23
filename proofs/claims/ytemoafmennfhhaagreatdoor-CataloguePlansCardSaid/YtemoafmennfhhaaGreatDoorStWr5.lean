/- Runs of sweep.Witness. -/
import Derived.Test.YtemoafmennfhhaaGreatDoorStWi
namespace Go.Sy
open Go.RowKit Go.Proofs
set_option linter.unusedVariables false
set_option maxRecDepth 1000000
set_option maxHeartbeats 0
theorem stwr3_0_0 : RanW gL3_0 (wiT stS3 1 stW3_0):=by decide +kernel
theorem stwr3_0_8 : RanW gL3_0 (wiT stS3 1 stW3_8):=by decide +kernel
theorem stwr3_0_16 : RanW gL3_0 (wiT stS3 1 stW3_16):=by decide +kernel
theorem stwr4_0_0 : RanW gL4_0 (wiT stS4 1 stW4_0):=by decide +kernel
theorem stwr3_1_0 : RanW gL3_1 (wiT stS3 2 stW3_0):=by decide +kernel
theorem stwr3_1_8 : RanW gL3_1 (wiT stS3 2 stW3_8):=by decide +kernel
theorem stwr3_1_16 : RanW gL3_1 (wiT stS3 2 stW3_16):=by decide +kernel
theorem stwr4_1_0 : RanW gL4_1 (wiT stS4 2 stW4_0):=by decide +kernel
theorem stwr3_2_0 : RanW gL3_2 (wiT stS3 3 stW3_0):=by decide +kernel
theorem stwr3_2_8 : RanW gL3_2 (wiT stS3 3 stW3_8):=by decide +kernel
theorem stwr3_2_16 : RanW gL3_2 (wiT stS3 3 stW3_16):=by decide +kernel
theorem stwr4_2_0 : RanW gL4_2 (wiT stS4 3 stW4_0):=by decide +kernel
theorem stwr3_3_0 : RanW gL3_3 (wiT stS3 4 stW3_0):=by decide +kernel
theorem stwr3_3_8 : RanW gL3_3 (wiT stS3 4 stW3_8):=by decide +kernel
theorem stwr3_3_16 : RanW gL3_3 (wiT stS3 4 stW3_16):=by decide +kernel
theorem stwr4_3_0 : RanW gL4_3 (wiT stS4 4 stW4_0):=by decide +kernel
end Go.Sy
namespace Go.Sy
open Go.RowKit Go.Proofs
set_option linter.unusedVariables false
set_option maxRecDepth 1000000
set_option maxHeartbeats 0
theorem stwr3_0_1 : RanW gL3_0 (wiT stS3 1 stW3_1):=by decide +kernel
theorem stwr3_0_9 : RanW gL3_0 (wiT stS3 1 stW3_9):=by decide +kernel
theorem stwr3_0_17 : RanW gL3_0 (wiT stS3 1 stW3_17):=by decide +kernel
theorem stwr4_0_1 : RanW gL4_0 (wiT stS4 1 stW4_1):=by decide +kernel
theorem stwr3_1_1 : RanW gL3_1 (wiT stS3 2 stW3_1):=by decide +kernel
theorem stwr3_1_9 : RanW gL3_1 (wiT stS3 2 stW3_9):=by decide +kernel
theorem stwr3_1_17 : RanW gL3_1 (wiT stS3 2 stW3_17):=by decide +kernel
theorem stwr4_1_1 : RanW gL4_1 (wiT stS4 2 stW4_1):=by decide +kernel
theorem stwr3_2_1 : RanW gL3_2 (wiT stS3 3 stW3_1):=by decide +kernel
theorem stwr3_2_9 : RanW gL3_2 (wiT stS3 3 stW3_9):=by decide +kernel
theorem stwr3_2_17 : RanW gL3_2 (wiT stS3 3 stW3_17):=by decide +kernel
theorem stwr4_2_1 : RanW gL4_2 (wiT stS4 3 stW4_1):=by decide +kernel
theorem stwr3_3_1 : RanW gL3_3 (wiT stS3 4 stW3_1):=by decide +kernel
theorem stwr3_3_9 : RanW gL3_3 (wiT stS3 4 stW3_9):=by decide +kernel
theorem stwr3_3_17 : RanW gL3_3 (wiT stS3 4 stW3_17):=by decide +kernel
theorem stwr4_3_1 : RanW gL4_3 (wiT stS4 4 stW4_1):=by decide +kernel
end Go.Sy
