/- CatalogueTouches: runs. -/
import Derived.Test.YtialjngnlekplaaGreatDoorSuLaw
namespace Go.Sy
open Go.RowKit Go.Proofs
set_option linter.unusedVariables false
set_option maxRecDepth 1000000
set_option maxHeartbeats 0
theorem run_1_4_3 : chk gL0_3 (.rng .u8 6 (-6)) (.rng .u8 5 (-1)) (.rng .u8 4 (-1)) = true := by decide +kernel
theorem run_1_2_3 : chk gL0_3 (.rng .u8 6 (-6)) (.rng .u8 5 (-3)) (.rng .u8 4 (-1)) = true := by decide +kernel
theorem run_6_3_3 : chk gL5_3 (.rng .u8 6 (-1)) (.rng .u8 4 (-1)) (.rng .u8 4 (-1)) = true := by decide +kernel
theorem run_2_2_3 : chk gL1_3 (.rng .u8 6 (-5)) (.rng .u8 3 (-1)) (.rng .u8 4 (-1)) = true := by decide +kernel
theorem run_4_1_3 : chk gL3_3 (.rng .u8 6 (-3)) (.rng .u8 3 (-2)) (.rng .u8 4 (-1)) = true := by decide +kernel
theorem run_6_2_3 : chk gL5_3 (.rng .u8 6 (-1)) (.rng .u8 4 (-2)) (.rng .u8 4 (-1)) = true := by decide +kernel
theorem run_2_1_3 : chk gL1_3 (.rng .u8 6 (-5)) (.rng .u8 3 (-2)) (.rng .u8 4 (-1)) = true := by decide +kernel
theorem run_4_0_3 : chk gL3_3 (.rng .u8 6 (-3)) (.rng .u8 3 (-3)) (.rng .u8 4 (-1)) = true := by decide +kernel
theorem run_6_1_3 : chk gL5_3 (.rng .u8 6 (-1)) (.rng .u8 4 (-3)) (.rng .u8 4 (-1)) = true := by decide +kernel
theorem run_3_0_3 : chk gL2_3 (.rng .u8 6 (-4)) (.rng .u8 3 (-3)) (.rng .u8 4 (-1)) = true := by decide +kernel
theorem run_6_0_3 : chk gL5_3 (.rng .u8 6 (-1)) (.rng .u8 4 (-4)) (.rng .u8 4 (-1)) = true := by decide +kernel
end Go.Sy
