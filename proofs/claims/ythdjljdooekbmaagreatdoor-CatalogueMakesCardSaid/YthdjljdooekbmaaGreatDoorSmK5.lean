/- CatalogueMakes: runs. -/
import Derived.Test.YthdjljdooekbmaaGreatDoorSmLaw
namespace Go.Sy
open Go.RowKit Go.Proofs
set_option linter.unusedVariables false
set_option maxRecDepth 1000000
set_option maxHeartbeats 0
theorem run_1_3_1 : chk (.rng .u8 6 (-6)) (.rng .u8 5 (-2)) (.rng .u8 4 (-3)) = true := by decide +kernel
theorem run_6_3_0 : chk (.rng .u8 6 (-1)) (.rng .u8 4 (-1)) (.rng .u8 4 (-4)) = true := by decide +kernel
theorem run_2_2_3 : chk (.rng .u8 6 (-5)) (.rng .u8 3 (-1)) (.rng .u8 4 (-1)) = true := by decide +kernel
theorem run_5_2_2 : chk (.rng .u8 6 (-2)) (.rng .u8 3 (-1)) (.rng .u8 4 (-2)) = true := by decide +kernel
theorem run_2_1_1 : chk (.rng .u8 6 (-5)) (.rng .u8 3 (-2)) (.rng .u8 4 (-3)) = true := by decide +kernel
theorem run_5_1_0 : chk (.rng .u8 6 (-2)) (.rng .u8 3 (-2)) (.rng .u8 4 (-4)) = true := by decide +kernel
theorem run_2_0_3 : chk (.rng .u8 6 (-5)) (.rng .u8 3 (-3)) (.rng .u8 4 (-1)) = true := by decide +kernel
theorem run_6_0_2 : chk (.rng .u8 6 (-1)) (.rng .u8 4 (-4)) (.rng .u8 4 (-2)) = true := by decide +kernel
end Go.Sy
