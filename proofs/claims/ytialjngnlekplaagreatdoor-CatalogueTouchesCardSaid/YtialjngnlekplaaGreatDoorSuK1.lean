/- CatalogueTouches: runs. -/
import Derived.Test.YtialjngnlekplaaGreatDoorSuLaw
namespace Go.Sy
open Go.RowKit Go.Proofs
set_option linter.unusedVariables false
set_option maxRecDepth 1000000
set_option maxHeartbeats 0
theorem run_1_4_1 : chk gL0_1 (.rng .u8 6 (-6)) (.rng .u8 5 (-1)) (.rng .u8 4 (-3)) = true := by decide +kernel
theorem run_1_2_1 : chk gL0_1 (.rng .u8 6 (-6)) (.rng .u8 5 (-3)) (.rng .u8 4 (-3)) = true := by decide +kernel
theorem run_6_3_1 : chk gL5_1 (.rng .u8 6 (-1)) (.rng .u8 4 (-1)) (.rng .u8 4 (-3)) = true := by decide +kernel
theorem run_2_2_1 : chk gL1_1 (.rng .u8 6 (-5)) (.rng .u8 3 (-1)) (.rng .u8 4 (-3)) = true := by decide +kernel
theorem run_4_1_1 : chk gL3_1 (.rng .u8 6 (-3)) (.rng .u8 3 (-2)) (.rng .u8 4 (-3)) = true := by decide +kernel
theorem run_6_2_1 : chk gL5_1 (.rng .u8 6 (-1)) (.rng .u8 4 (-2)) (.rng .u8 4 (-3)) = true := by decide +kernel
theorem run_2_1_1 : chk gL1_1 (.rng .u8 6 (-5)) (.rng .u8 3 (-2)) (.rng .u8 4 (-3)) = true := by decide +kernel
theorem run_4_0_1 : chk gL3_1 (.rng .u8 6 (-3)) (.rng .u8 3 (-3)) (.rng .u8 4 (-3)) = true := by decide +kernel
theorem run_6_1_1 : chk gL5_1 (.rng .u8 6 (-1)) (.rng .u8 4 (-3)) (.rng .u8 4 (-3)) = true := by decide +kernel
theorem run_3_0_1 : chk gL2_1 (.rng .u8 6 (-4)) (.rng .u8 3 (-3)) (.rng .u8 4 (-3)) = true := by decide +kernel
theorem run_6_0_1 : chk gL5_1 (.rng .u8 6 (-1)) (.rng .u8 4 (-4)) (.rng .u8 4 (-3)) = true := by decide +kernel
end Go.Sy
