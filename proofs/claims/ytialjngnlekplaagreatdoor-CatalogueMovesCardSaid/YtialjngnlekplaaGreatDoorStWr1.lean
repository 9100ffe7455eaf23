/- Runs of sweep.Witness. -/
import Derived.Test.YtialjngnlekplaaGreatDoorStWi
namespace Go.Sy
open Go.RowKit Go.Proofs
set_option linter.unusedVariables false
set_option maxRecDepth 1000000
set_option maxHeartbeats 0
theorem w0_0_0 : RanW gL0_0 (wiT stS0 1 W0_0):=by decide +kernel
theorem w1_0_0 : RanW gL1_0 (wiT stS1 1 W1_0):=by decide +kernel
theorem w1_0_8 : RanW gL1_0 (wiT stS1 1 W1_8):=by decide +kernel
theorem w2_0_7 : RanW gL2_0 (wiT stS2 1 W2_7):=by decide +kernel
theorem w2_0_15 : RanW gL2_0 (wiT stS2 1 W2_15):=by decide +kernel
theorem w3_0_7 : RanW gL3_0 (wiT stS3 1 W3_7):=by decide +kernel
theorem w4_0_2 : RanW gL4_0 (wiT stS4 1 W4_2):=by decide +kernel
theorem w4_0_10 : RanW gL4_0 (wiT stS4 1 W4_10):=by decide +kernel
theorem w5_0_5 : RanW gL5_0 (wiT stS5 1 W5_5):=by decide +kernel
theorem w0_1_0 : RanW gL0_1 (wiT stS0 2 W0_0):=by decide +kernel
theorem w1_1_0 : RanW gL1_1 (wiT stS1 2 W1_0):=by decide +kernel
theorem w1_1_8 : RanW gL1_1 (wiT stS1 2 W1_8):=by decide +kernel
theorem w2_1_7 : RanW gL2_1 (wiT stS2 2 W2_7):=by decide +kernel
theorem w2_1_15 : RanW gL2_1 (wiT stS2 2 W2_15):=by decide +kernel
theorem w3_1_7 : RanW gL3_1 (wiT stS3 2 W3_7):=by decide +kernel
theorem w4_1_2 : RanW gL4_1 (wiT stS4 2 W4_2):=by decide +kernel
theorem w4_1_10 : RanW gL4_1 (wiT stS4 2 W4_10):=by decide +kernel
theorem w5_1_5 : RanW gL5_1 (wiT stS5 2 W5_5):=by decide +kernel
theorem w0_2_0 : RanW gL0_2 (wiT stS0 3 W0_0):=by decide +kernel
theorem w1_2_0 : RanW gL1_2 (wiT stS1 3 W1_0):=by decide +kernel
theorem w1_2_8 : RanW gL1_2 (wiT stS1 3 W1_8):=by decide +kernel
theorem w2_2_7 : RanW gL2_2 (wiT stS2 3 W2_7):=by decide +kernel
theorem w2_2_15 : RanW gL2_2 (wiT stS2 3 W2_15):=by decide +kernel
theorem w3_2_7 : RanW gL3_2 (wiT stS3 3 W3_7):=by decide +kernel
theorem w4_2_2 : RanW gL4_2 (wiT stS4 3 W4_2):=by decide +kernel
theorem w4_2_10 : RanW gL4_2 (wiT stS4 3 W4_10):=by decide +kernel
theorem w5_2_5 : RanW gL5_2 (wiT stS5 3 W5_5):=by decide +kernel
theorem w0_3_0 : RanW gL0_3 (wiT stS0 4 W0_0):=by decide +kernel
theorem w1_3_0 : RanW gL1_3 (wiT stS1 4 W1_0):=by decide +kernel
theorem w1_3_8 : RanW gL1_3 (wiT stS1 4 W1_8):=by decide +kernel
theorem w2_3_7 : RanW gL2_3 (wiT stS2 4 W2_7):=by decide +kernel
theorem w2_3_15 : RanW gL2_3 (wiT stS2 4 W2_15):=by decide +kernel
theorem w3_3_7 : RanW gL3_3 (wiT stS3 4 W3_7):=by decide +kernel
theorem w4_3_2 : RanW gL4_3 (wiT stS4 4 W4_2):=by decide +kernel
theorem w4_3_10 : RanW gL4_3 (wiT stS4 4 W4_10):=by decide +kernel
theorem w5_3_5 : RanW gL5_3 (wiT stS5 4 W5_5):=by decide +kernel
end Go.Sy
namespace Go.Sy
open Go.RowKit Go.Proofs
set_option linter.unusedVariables false
set_option maxRecDepth 1000000
set_option maxHeartbeats 0
theorem w0_0_1 : RanW gL0_0 (wiT stS0 1 W0_1):=by decide +kernel
theorem w1_0_1 : RanW gL1_0 (wiT stS1 1 W1_1):=by decide +kernel
theorem w2_0_0 : RanW gL2_0 (wiT stS2 1 W2_0):=by decide +kernel
theorem w2_0_8 : RanW gL2_0 (wiT stS2 1 W2_8):=by decide +kernel
theorem w3_0_0 : RanW gL3_0 (wiT stS3 1 W3_0):=by decide +kernel
theorem w3_0_8 : RanW gL3_0 (wiT stS3 1 W3_8):=by decide +kernel
theorem w4_0_3 : RanW gL4_0 (wiT stS4 1 W4_3):=by decide +kernel
theorem w4_0_11 : RanW gL4_0 (wiT stS4 1 W4_11):=by decide +kernel
theorem w5_0_6 : RanW gL5_0 (wiT stS5 1 W5_6):=by decide +kernel
theorem w0_1_1 : RanW gL0_1 (wiT stS0 2 W0_1):=by decide +kernel
theorem w1_1_1 : RanW gL1_1 (wiT stS1 2 W1_1):=by decide +kernel
theorem w2_1_0 : RanW gL2_1 (wiT stS2 2 W2_0):=by decide +kernel
theorem w2_1_8 : RanW gL2_1 (wiT stS2 2 W2_8):=by decide +kernel
theorem w3_1_0 : RanW gL3_1 (wiT stS3 2 W3_0):=by decide +kernel
theorem w3_1_8 : RanW gL3_1 (wiT stS3 2 W3_8):=by decide +kernel
theorem w4_1_3 : RanW gL4_1 (wiT stS4 2 W4_3):=by decide +kernel
theorem w4_1_11 : RanW gL4_1 (wiT stS4 2 W4_11):=by decide +kernel
theorem w5_1_6 : RanW gL5_1 (wiT stS5 2 W5_6):=by decide +kernel
theorem w0_2_1 : RanW gL0_2 (wiT stS0 3 W0_1):=by decide +kernel
theorem w1_2_1 : RanW gL1_2 (wiT stS1 3 W1_1):=by decide +kernel
theorem w2_2_0 : RanW gL2_2 (wiT stS2 3 W2_0):=by decide +kernel
theorem w2_2_8 : RanW gL2_2 (wiT stS2 3 W2_8):=by decide +kernel
theorem w3_2_0 : RanW gL3_2 (wiT stS3 3 W3_0):=by decide +kernel
theorem w3_2_8 : RanW gL3_2 (wiT stS3 3 W3_8):=by decide +kernel
theorem w4_2_3 : RanW gL4_2 (wiT stS4 3 W4_3):=by decide +kernel
theorem w4_2_11 : RanW gL4_2 (wiT stS4 3 W4_11):=by decide +kernel
theorem w5_2_6 : RanW gL5_2 (wiT stS5 3 W5_6):=by decide +kernel
theorem w0_3_1 : RanW gL0_3 (wiT stS0 4 W0_1):=by decide +kernel
theorem w1_3_1 : RanW gL1_3 (wiT stS1 4 W1_1):=by decide +kernel
theorem w2_3_0 : RanW gL2_3 (wiT stS2 4 W2_0):=by decide +kernel
theorem w2_3_8 : RanW gL2_3 (wiT stS2 4 W2_8):=by decide +kernel
theorem w3_3_0 : RanW gL3_3 (wiT stS3 4 W3_0):=by decide +kernel
theorem w3_3_8 : RanW gL3_3 (wiT stS3 4 W3_8):=by decide +kernel
theorem w4_3_3 : RanW gL4_3 (wiT stS4 4 W4_3):=by decide +kernel
theorem w4_3_11 : RanW gL4_3 (wiT stS4 4 W4_11):=by decide +kernel
theorem w5_3_6 : RanW gL5_3 (wiT stS5 4 W5_6):=by decide +kernel
end Go.Sy
