/- CatalogueTouches: runs. -/
import Derived.Test.YtialjngnlekplaaGreatDoorSuLaw
namespace Go.Sy
open Go.RowKit Go.Proofs
set_option linter.unusedVariables false
set_option maxRecDepth 1000000
set_option maxHeartbeats 0
theorem run_1_3_1 : chk gL0_1 (.rng .u8 6 (-6)) (.rng .u8 5 (-2)) (.rng .u8 4 (-3)) = true := by decide +kernel
theorem run_4_2_1 : chk gL3_1 (.rng .u8 6 (-3)) (.rng .u8 3 (-1)) (.rng .u8 4 (-3)) = true := by decide +kernel
theorem run_1_1_1 : chk gL0_1 (.rng .u8 6 (-6)) (.rng .u8 5 (-4)) (.rng .u8 4 (-3)) = true := by decide +kernel
theorem run_3_2_1 : chk gL2_1 (.rng .u8 6 (-4)) (.rng .u8 3 (-1)) (.rng .u8 4 (-3)) = true := by decide +kernel
theorem run_5_2_1 : chk gL4_1 (.rng .u8 6 (-2)) (.rng .u8 3 (-1)) (.rng .u8 4 (-3)) = true := by decide +kernel
theorem run_1_0_1 : chk gL0_1 (.rng .u8 6 (-6)) (.rng .u8 5 (-5)) (.rng .u8 4 (-3)) = true := by decide +kernel
theorem run_3_1_1 : chk gL2_1 (.rng .u8 6 (-4)) (.rng .u8 3 (-2)) (.rng .u8 4 (-3)) = true := by decide +kernel
theorem run_5_1_1 : chk gL4_1 (.rng .u8 6 (-2)) (.rng .u8 3 (-2)) (.rng .u8 4 (-3)) = true := by decide +kernel
theorem run_2_0_1 : chk gL1_1 (.rng .u8 6 (-5)) (.rng .u8 3 (-3)) (.rng .u8 4 (-3)) = true := by decide +kernel
theorem run_5_0_1 : chk gL4_1 (.rng .u8 6 (-2)) (.rng .u8 3 (-3)) (.rng .u8 4 (-3)) = true := by decide +kernel
end Go.Sy
