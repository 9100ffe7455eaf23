/- Runs of sweep.Witness. -/
import Derived.Test.YtialjngnlekplaaGreatDoorStWi
namespace Go.Sy
open Go.RowKit Go.Proofs
set_option linter.unusedVariables false
set_option maxRecDepth 1000000
set_option maxHeartbeats 0
theorem w0_0_6 : RanW gL0_0 (wiT stS0 1 W0_6):=by decide +kernel
theorem w1_0_6 : RanW gL1_0 (wiT stS1 1 W1_6):=by decide +kernel
theorem w2_0_5 : RanW gL2_0 (wiT stS2 1 W2_5):=by decide +kernel
theorem w2_0_13 : RanW gL2_0 (wiT stS2 1 W2_13):=by decide +kernel
theorem w3_0_5 : RanW gL3_0 (wiT stS3 1 W3_5):=by decide +kernel
theorem w4_0_0 : RanW gL4_0 (wiT stS4 1 W4_0):=by decide +kernel
theorem w4_0_8 : RanW gL4_0 (wiT stS4 1 W4_8):=by decide +kernel
theorem w5_0_3 : RanW gL5_0 (wiT stS5 1 W5_3):=by decide +kernel
theorem w5_0_11 : RanW gL5_0 (wiT stS5 1 W5_11):=by decide +kernel
theorem w0_1_6 : RanW gL0_1 (wiT stS0 2 W0_6):=by decide +kernel
theorem w1_1_6 : RanW gL1_1 (wiT stS1 2 W1_6):=by decide +kernel
theorem w2_1_5 : RanW gL2_1 (wiT stS2 2 W2_5):=by decide +kernel
theorem w2_1_13 : RanW gL2_1 (wiT stS2 2 W2_13):=by decide +kernel
theorem w3_1_5 : RanW gL3_1 (wiT stS3 2 W3_5):=by decide +kernel
theorem w4_1_0 : RanW gL4_1 (wiT stS4 2 W4_0):=by decide +kernel
theorem w4_1_8 : RanW gL4_1 (wiT stS4 2 W4_8):=by decide +kernel
theorem w5_1_3 : RanW gL5_1 (wiT stS5 2 W5_3):=by decide +kernel
theorem w5_1_11 : RanW gL5_1 (wiT stS5 2 W5_11):=by decide +kernel
theorem w0_2_6 : RanW gL0_2 (wiT stS0 3 W0_6):=by decide +kernel
theorem w1_2_6 : RanW gL1_2 (wiT stS1 3 W1_6):=by decide +kernel
theorem w2_2_5 : RanW gL2_2 (wiT stS2 3 W2_5):=by decide +kernel
theorem w2_2_13 : RanW gL2_2 (wiT stS2 3 W2_13):=by decide +kernel
theorem w3_2_5 : RanW gL3_2 (wiT stS3 3 W3_5):=by decide +kernel
theorem w4_2_0 : RanW gL4_2 (wiT stS4 3 W4_0):=by decide +kernel
theorem w4_2_8 : RanW gL4_2 (wiT stS4 3 W4_8):=by decide +kernel
theorem w5_2_3 : RanW gL5_2 (wiT stS5 3 W5_3):=by decide +kernel
theorem w5_2_11 : RanW gL5_2 (wiT stS5 3 W5_11):=by decide +kernel
theorem w0_3_6 : RanW gL0_3 (wiT stS0 4 W0_6):=by decide +kernel
theorem w1_3_6 : RanW gL1_3 (wiT stS1 4 W1_6):=by decide +kernel
theorem w2_3_5 : RanW gL2_3 (wiT stS2 4 W2_5):=by decide +kernel
theorem w2_3_13 : RanW gL2_3 (wiT stS2 4 W2_13):=by decide +kernel
theorem w3_3_5 : RanW gL3_3 (wiT stS3 4 W3_5):=by decide +kernel
theorem w4_3_0 : RanW gL4_3 (wiT stS4 4 W4_0):=by decide +kernel
theorem w4_3_8 : RanW gL4_3 (wiT stS4 4 W4_8):=by decide +kernel
theorem w5_3_3 : RanW gL5_3 (wiT stS5 4 W5_3):=by decide +kernel
theorem w5_3_11 : RanW gL5_3 (wiT stS5 4 W5_11):=by decide +kernel
end Go.Sy
namespace Go.Sy
open Go.RowKit Go.Proofs
set_option linter.unusedVariables false
set_option maxRecDepth 1000000
set_option maxHeartbeats 0
theorem w0_0_7 : RanW gL0_0 (wiT stS0 1 W0_7):=by decide +kernel
theorem w1_0_7 : RanW gL1_0 (wiT stS1 1 W1_7):=by decide +kernel
theorem w2_0_6 : RanW gL2_0 (wiT stS2 1 W2_6):=by decide +kernel
theorem w2_0_14 : RanW gL2_0 (wiT stS2 1 W2_14):=by decide +kernel
theorem w3_0_6 : RanW gL3_0 (wiT stS3 1 W3_6):=by decide +kernel
theorem w4_0_1 : RanW gL4_0 (wiT stS4 1 W4_1):=by decide +kernel
theorem w4_0_9 : RanW gL4_0 (wiT stS4 1 W4_9):=by decide +kernel
theorem w5_0_4 : RanW gL5_0 (wiT stS5 1 W5_4):=by decide +kernel
theorem w5_0_12 : RanW gL5_0 (wiT stS5 1 W5_12):=by decide +kernel
theorem w0_1_7 : RanW gL0_1 (wiT stS0 2 W0_7):=by decide +kernel
theorem w1_1_7 : RanW gL1_1 (wiT stS1 2 W1_7):=by decide +kernel
theorem w2_1_6 : RanW gL2_1 (wiT stS2 2 W2_6):=by decide +kernel
theorem w2_1_14 : RanW gL2_1 (wiT stS2 2 W2_14):=by decide +kernel
theorem w3_1_6 : RanW gL3_1 (wiT stS3 2 W3_6):=by decide +kernel
theorem w4_1_1 : RanW gL4_1 (wiT stS4 2 W4_1):=by decide +kernel
theorem w4_1_9 : RanW gL4_1 (wiT stS4 2 W4_9):=by decide +kernel
theorem w5_1_4 : RanW gL5_1 (wiT stS5 2 W5_4):=by decide +kernel
theorem w5_1_12 : RanW gL5_1 (wiT stS5 2 W5_12):=by decide +kernel
theorem w0_2_7 : RanW gL0_2 (wiT stS0 3 W0_7):=by decide +kernel
theorem w1_2_7 : RanW gL1_2 (wiT stS1 3 W1_7):=by decide +kernel
theorem w2_2_6 : RanW gL2_2 (wiT stS2 3 W2_6):=by decide +kernel
theorem w2_2_14 : RanW gL2_2 (wiT stS2 3 W2_14):=by decide +kernel
theorem w3_2_6 : RanW gL3_2 (wiT stS3 3 W3_6):=by decide +kernel
theorem w4_2_1 : RanW gL4_2 (wiT stS4 3 W4_1):=by decide +kernel
theorem w4_2_9 : RanW gL4_2 (wiT stS4 3 W4_9):=by decide +kernel
theorem w5_2_4 : RanW gL5_2 (wiT stS5 3 W5_4):=by decide +kernel
theorem w5_2_12 : RanW gL5_2 (wiT stS5 3 W5_12):=by decide +kernel
theorem w0_3_7 : RanW gL0_3 (wiT stS0 4 W0_7):=by decide +kernel
theorem w1_3_7 : RanW gL1_3 (wiT stS1 4 W1_7):=by decide +kernel
theorem w2_3_6 : RanW gL2_3 (wiT stS2 4 W2_6):=by decide +kernel
theorem w2_3_14 : RanW gL2_3 (wiT stS2 4 W2_14):=by decide +kernel
theorem w3_3_6 : RanW gL3_3 (wiT stS3 4 W3_6):=by decide +kernel
theorem w4_3_1 : RanW gL4_3 (wiT stS4 4 W4_1):=by decide +kernel
theorem w4_3_9 : RanW gL4_3 (wiT stS4 4 W4_9):=by decide +kernel
theorem w5_3_4 : RanW gL5_3 (wiT stS5 4 W5_4):=by decide +kernel
theorem w5_3_12 : RanW gL5_3 (wiT stS5 4 W5_12):=by decide +kernel
end Go.Sy
