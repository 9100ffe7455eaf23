/- CatalogueMakes: runs. -/
import Derived.Test.YthdjljdooekbmaaGreatDoorSmLaw
namespace Go.Sy
open Go.RowKit Go.Proofs
set_option linter.unusedVariables false
set_option maxRecDepth 1000000
set_option maxHeartbeats 0
theorem run_1_4_2 : chk (.rng .u8 6 (-6)) (.rng .u8 5 (-1)) (.rng .u8 4 (-2)) = true := by decide +kernel
theorem run_4_2_1 : chk (.rng .u8 6 (-3)) (.rng .u8 3 (-1)) (.rng .u8 4 (-3)) = true := by decide +kernel
theorem run_2_2_0 : chk (.rng .u8 6 (-5)) (.rng .u8 3 (-1)) (.rng .u8 4 (-4)) = true := by decide +kernel
theorem run_4_1_3 : chk (.rng .u8 6 (-3)) (.rng .u8 3 (-2)) (.rng .u8 4 (-1)) = true := by decide +kernel
theorem run_1_0_2 : chk (.rng .u8 6 (-6)) (.rng .u8 5 (-5)) (.rng .u8 4 (-2)) = true := by decide +kernel
theorem run_4_0_1 : chk (.rng .u8 6 (-3)) (.rng .u8 3 (-3)) (.rng .u8 4 (-3)) = true := by decide +kernel
theorem run_2_0_0 : chk (.rng .u8 6 (-5)) (.rng .u8 3 (-3)) (.rng .u8 4 (-4)) = true := by decide +kernel
theorem run_5_0_3 : chk (.rng .u8 6 (-2)) (.rng .u8 3 (-3)) (.rng .u8 4 (-1)) = true := by decide +kernel
end Go.Sy
