/- CatalogueTouches: runs. -/
import Derived.Test.YtialjngnlekplaaGreatDoorSuLaw
namespace Go.Sy
open Go.RowKit Go.Proofs
set_option linter.unusedVariables false
set_option maxRecDepth 1000000
set_option maxHeartbeats 0
theorem run_1_3_3 : chk gL0_3 (.rng .u8 6 (-6)) (.rng .u8 5 (-2)) (.rng .u8 4 (-1)) = true := by decide +kernel
theorem run_4_2_3 : chk gL3_3 (.rng .u8 6 (-3)) (.rng .u8 3 (-1)) (.rng .u8 4 (-1)) = true := by decide +kernel
theorem run_1_1_3 : chk gL0_3 (.rng .u8 6 (-6)) (.rng .u8 5 (-4)) (.rng .u8 4 (-1)) = true := by decide +kernel
theorem run_3_2_3 : chk gL2_3 (.rng .u8 6 (-4)) (.rng .u8 3 (-1)) (.rng .u8 4 (-1)) = true := by decide +kernel
theorem run_5_2_3 : chk gL4_3 (.rng .u8 6 (-2)) (.rng .u8 3 (-1)) (.rng .u8 4 (-1)) = true := by decide +kernel
theorem run_1_0_3 : chk gL0_3 (.rng .u8 6 (-6)) (.rng .u8 5 (-5)) (.rng .u8 4 (-1)) = true := by decide +kernel
theorem run_3_1_3 : chk gL2_3 (.rng .u8 6 (-4)) (.rng .u8 3 (-2)) (.rng .u8 4 (-1)) = true := by decide +kernel
theorem run_5_1_3 : chk gL4_3 (.rng .u8 6 (-2)) (.rng .u8 3 (-2)) (.rng .u8 4 (-1)) = true := by decide +kernel
theorem run_2_0_3 : chk gL1_3 (.rng .u8 6 (-5)) (.rng .u8 3 (-3)) (.rng .u8 4 (-1)) = true := by decide +kernel
theorem run_5_0_3 : chk gL4_3 (.rng .u8 6 (-2)) (.rng .u8 3 (-3)) (.rng .u8 4 (-1)) = true := by decide +kernel
end Go.Sy
