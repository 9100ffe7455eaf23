/- Runs of sweep.Witness. -/
import Derived.Test.YtialjngnlekplaaGreatDoorStWi
namespace Go.Sy
open Go.RowKit Go.Proofs
set_option linter.unusedVariables false
set_option maxRecDepth 1000000
set_option maxHeartbeats 0
theorem w0_0_2 : RanW gL0_0 (wiT stS0 1 W0_2):=by decide +kernel
theorem w1_0_2 : RanW gL1_0 (wiT stS1 1 W1_2):=by decide +kernel
theorem w2_0_1 : RanW gL2_0 (wiT stS2 1 W2_1):=by decide +kernel
theorem w2_0_9 : RanW gL2_0 (wiT stS2 1 W2_9):=by decide +kernel
theorem w3_0_1 : RanW gL3_0 (wiT stS3 1 W3_1):=by decide +kernel
theorem w3_0_9 : RanW gL3_0 (wiT stS3 1 W3_9):=by decide +kernel
theorem w4_0_4 : RanW gL4_0 (wiT stS4 1 W4_4):=by decide +kernel
theorem w4_0_12 : RanW gL4_0 (wiT stS4 1 W4_12):=by decide +kernel
theorem w5_0_7 : RanW gL5_0 (wiT stS5 1 W5_7):=by decide +kernel
theorem w0_1_2 : RanW gL0_1 (wiT stS0 2 W0_2):=by decide +kernel
theorem w1_1_2 : RanW gL1_1 (wiT stS1 2 W1_2):=by decide +kernel
theorem w2_1_1 : RanW gL2_1 (wiT stS2 2 W2_1):=by decide +kernel
theorem w2_1_9 : RanW gL2_1 (wiT stS2 2 W2_9):=by decide +kernel
theorem w3_1_1 : RanW gL3_1 (wiT stS3 2 W3_1):=by decide +kernel
theorem w3_1_9 : RanW gL3_1 (wiT stS3 2 W3_9):=by decide +kernel
theorem w4_1_4 : RanW gL4_1 (wiT stS4 2 W4_4):=by decide +kernel
theorem w4_1_12 : RanW gL4_1 (wiT stS4 2 W4_12):=by decide +kernel
theorem w5_1_7 : RanW gL5_1 (wiT stS5 2 W5_7):=by decide +kernel
theorem w0_2_2 : RanW gL0_2 (wiT stS0 3 W0_2):=by decide +kernel
theorem w1_2_2 : RanW gL1_2 (wiT stS1 3 W1_2):=by decide +kernel
theorem w2_2_1 : RanW gL2_2 (wiT stS2 3 W2_1):=by decide +kernel
theorem w2_2_9 : RanW gL2_2 (wiT stS2 3 W2_9):=by decide +kernel
theorem w3_2_1 : RanW gL3_2 (wiT stS3 3 W3_1):=by decide +kernel
theorem w3_2_9 : RanW gL3_2 (wiT stS3 3 W3_9):=by decide +kernel
theorem w4_2_4 : RanW gL4_2 (wiT stS4 3 W4_4):=by decide +kernel
theorem w4_2_12 : RanW gL4_2 (wiT stS4 3 W4_12):=by decide +kernel
theorem w5_2_7 : RanW gL5_2 (wiT stS5 3 W5_7):=by decide +kernel
theorem w0_3_2 : RanW gL0_3 (wiT stS0 4 W0_2):=by decide +kernel
theorem w1_3_2 : RanW gL1_3 (wiT stS1 4 W1_2):=by decide +kernel
theorem w2_3_1 : RanW gL2_3 (wiT stS2 4 W2_1):=by decide +kernel
theorem w2_3_9 : RanW gL2_3 (wiT stS2 4 W2_9):=by decide +kernel
theorem w3_3_1 : RanW gL3_3 (wiT stS3 4 W3_1):=by decide +kernel
theorem w3_3_9 : RanW gL3_3 (wiT stS3 4 W3_9):=by decide +kernel
theorem w4_3_4 : RanW gL4_3 (wiT stS4 4 W4_4):=by decide +kernel
theorem w4_3_12 : RanW gL4_3 (wiT stS4 4 W4_12):=by decide +kernel
theorem w5_3_7 : RanW gL5_3 (wiT stS5 4 W5_7):=by decide +kernel
end Go.Sy
namespace Go.Sy
open Go.RowKit Go.Proofs
set_option linter.unusedVariables false
set_option maxRecDepth 1000000
set_option maxHeartbeats 0
theorem w0_0_3 : RanW gL0_0 (wiT stS0 1 W0_3):=by decide +kernel
theorem w1_0_3 : RanW gL1_0 (wiT stS1 1 W1_3):=by decide +kernel
theorem w2_0_2 : RanW gL2_0 (wiT stS2 1 W2_2):=by decide +kernel
theorem w2_0_10 : RanW gL2_0 (wiT stS2 1 W2_10):=by decide +kernel
theorem w3_0_2 : RanW gL3_0 (wiT stS3 1 W3_2):=by decide +kernel
theorem w3_0_10 : RanW gL3_0 (wiT stS3 1 W3_10):=by decide +kernel
theorem w4_0_5 : RanW gL4_0 (wiT stS4 1 W4_5):=by decide +kernel
theorem w5_0_0 : RanW gL5_0 (wiT stS5 1 W5_0):=by decide +kernel
theorem w5_0_8 : RanW gL5_0 (wiT stS5 1 W5_8):=by decide +kernel
theorem w0_1_3 : RanW gL0_1 (wiT stS0 2 W0_3):=by decide +kernel
theorem w1_1_3 : RanW gL1_1 (wiT stS1 2 W1_3):=by decide +kernel
theorem w2_1_2 : RanW gL2_1 (wiT stS2 2 W2_2):=by decide +kernel
theorem w2_1_10 : RanW gL2_1 (wiT stS2 2 W2_10):=by decide +kernel
theorem w3_1_2 : RanW gL3_1 (wiT stS3 2 W3_2):=by decide +kernel
theorem w3_1_10 : RanW gL3_1 (wiT stS3 2 W3_10):=by decide +kernel
theorem w4_1_5 : RanW gL4_1 (wiT stS4 2 W4_5):=by decide +kernel
theorem w5_1_0 : RanW gL5_1 (wiT stS5 2 W5_0):=by decide +kernel
theorem w5_1_8 : RanW gL5_1 (wiT stS5 2 W5_8):=by decide +kernel
theorem w0_2_3 : RanW gL0_2 (wiT stS0 3 W0_3):=by decide +kernel
theorem w1_2_3 : RanW gL1_2 (wiT stS1 3 W1_3):=by decide +kernel
theorem w2_2_2 : RanW gL2_2 (wiT stS2 3 W2_2):=by decide +kernel
theorem w2_2_10 : RanW gL2_2 (wiT stS2 3 W2_10):=by decide +kernel
theorem w3_2_2 : RanW gL3_2 (wiT stS3 3 W3_2):=by decide +kernel
theorem w3_2_10 : RanW gL3_2 (wiT stS3 3 W3_10):=by decide +kernel
theorem w4_2_5 : RanW gL4_2 (wiT stS4 3 W4_5):=by decide +kernel
theorem w5_2_0 : RanW gL5_2 (wiT stS5 3 W5_0):=by decide +kernel
theorem w5_2_8 : RanW gL5_2 (wiT stS5 3 W5_8):=by decide +kernel
theorem w0_3_3 : RanW gL0_3 (wiT stS0 4 W0_3):=by decide +kernel
theorem w1_3_3 : RanW gL1_3 (wiT stS1 4 W1_3):=by decide +kernel
theorem w2_3_2 : RanW gL2_3 (wiT stS2 4 W2_2):=by decide +kernel
theorem w2_3_10 : RanW gL2_3 (wiT stS2 4 W2_10):=by decide +kernel
theorem w3_3_2 : RanW gL3_3 (wiT stS3 4 W3_2):=by decide +kernel
theorem w3_3_10 : RanW gL3_3 (wiT stS3 4 W3_10):=by decide +kernel
theorem w4_3_5 : RanW gL4_3 (wiT stS4 4 W4_5):=by decide +kernel
theorem w5_3_0 : RanW gL5_3 (wiT stS5 4 W5_0):=by decide +kernel
theorem w5_3_8 : RanW gL5_3 (wiT stS5 4 W5_8):=by decide +kernel
end Go.Sy
