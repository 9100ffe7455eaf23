/- CataloguePlans: runs. -/
import Derived.Test.YtemoafmennfhhaaGreatDoorSpLaw
namespace Go.Sy
open Go.RowKit Go.Proofs
set_option linter.unusedVariables false
set_option maxRecDepth 1000000
set_option maxHeartbeats 0
theorem run_1_3_1 : chk gP0_1 (.rng .u8 6 (-6)) (.rng .u8 5 (-2)) (.rng .u8 4 (-3)) = true:=by decide +kernel
theorem run_4_2_0 : chk gP3_0 (.rng .u8 6 (-3)) (.rng .u8 3 (-1)) (.rng .u8 4 (-4)) = true:=by decide +kernel
theorem run_6_3_3 : chk gP5_3 (.rng .u8 6 (-1)) (.rng .u8 4 (-1)) (.rng .u8 4 (-1)) = true:=by decide +kernel
theorem run_2_2_2 : chk gP1_2 (.rng .u8 6 (-5)) (.rng .u8 3 (-1)) (.rng .u8 4 (-2)) = true:=by decide +kernel
theorem run_4_1_1 : chk gP3_1 (.rng .u8 6 (-3)) (.rng .u8 3 (-2)) (.rng .u8 4 (-3)) = true:=by decide +kernel
theorem run_6_2_0 : chk gP5_0 (.rng .u8 6 (-1)) (.rng .u8 4 (-2)) (.rng .u8 4 (-4)) = true:=by decide +kernel
theorem run_1_0_3 : chk gP0_3 (.rng .u8 6 (-6)) (.rng .u8 5 (-5)) (.rng .u8 4 (-1)) = true:=by decide +kernel
theorem run_3_1_2 : chk gP2_2 (.rng .u8 6 (-4)) (.rng .u8 3 (-2)) (.rng .u8 4 (-2)) = true:=by decide +kernel
theorem run_5_1_1 : chk gP4_1 (.rng .u8 6 (-2)) (.rng .u8 3 (-2)) (.rng .u8 4 (-3)) = true:=by decide +kernel
theorem run_2_0_0 : chk gP1_0 (.rng .u8 6 (-5)) (.rng .u8 3 (-3)) (.rng .u8 4 (-4)) = true:=by decide +kernel
theorem run_3_0_3 : chk gP2_3 (.rng .u8 6 (-4)) (.rng .u8 3 (-3)) (.rng .u8 4 (-1)) = true:=by decide +kernel
theorem run_6_0_2 : chk gP5_2 (.rng .u8 6 (-1)) (.rng .u8 4 (-4)) (.rng .u8 4 (-2)) = true:=by decide +kernel
end Go.Sy
