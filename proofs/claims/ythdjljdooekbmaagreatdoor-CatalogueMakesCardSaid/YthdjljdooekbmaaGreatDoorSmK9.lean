/- CatalogueMakes: runs. -/
import Derived.Test.YthdjljdooekbmaaGreatDoorSmLaw
namespace Go.Sy
open Go.RowKit Go.Proofs
set_option linter.unusedVariables false
set_option maxRecDepth 1000000
set_option maxHeartbeats 0
theorem run_1_2_1 : chk (.rng .u8 6 (-6)) (.rng .u8 5 (-3)) (.rng .u8 4 (-3)) = true := by decide +kernel
theorem run_1_1_0 : chk (.rng .u8 6 (-6)) (.rng .u8 5 (-4)) (.rng .u8 4 (-4)) = true := by decide +kernel
theorem run_3_2_3 : chk (.rng .u8 6 (-4)) (.rng .u8 3 (-1)) (.rng .u8 4 (-1)) = true := by decide +kernel
theorem run_6_2_2 : chk (.rng .u8 6 (-1)) (.rng .u8 4 (-2)) (.rng .u8 4 (-2)) = true := by decide +kernel
theorem run_3_1_1 : chk (.rng .u8 6 (-4)) (.rng .u8 3 (-2)) (.rng .u8 4 (-3)) = true := by decide +kernel
theorem run_6_1_0 : chk (.rng .u8 6 (-1)) (.rng .u8 4 (-3)) (.rng .u8 4 (-4)) = true := by decide +kernel
theorem run_3_0_3 : chk (.rng .u8 6 (-4)) (.rng .u8 3 (-3)) (.rng .u8 4 (-1)) = true := by decide +kernel
theorem run_1_2_2 : chk (.rng .u8 6 (-6)) (.rng .u8 5 (-3)) (.rng .u8 4 (-2)) = true := by decide +kernel
theorem run_1_1_1 : chk (.rng .u8 6 (-6)) (.rng .u8 5 (-4)) (.rng .u8 4 (-3)) = true := by decide +kernel
theorem run_4_1_0 : chk (.rng .u8 6 (-3)) (.rng .u8 3 (-2)) (.rng .u8 4 (-4)) = true := by decide +kernel
theorem run_6_2_3 : chk (.rng .u8 6 (-1)) (.rng .u8 4 (-2)) (.rng .u8 4 (-1)) = true := by decide +kernel
theorem run_3_1_2 : chk (.rng .u8 6 (-4)) (.rng .u8 3 (-2)) (.rng .u8 4 (-2)) = true := by decide +kernel
theorem run_6_1_1 : chk (.rng .u8 6 (-1)) (.rng .u8 4 (-3)) (.rng .u8 4 (-3)) = true := by decide +kernel
theorem run_5_0_0 : chk (.rng .u8 6 (-2)) (.rng .u8 3 (-3)) (.rng .u8 4 (-4)) = true := by decide +kernel
end Go.Sy
