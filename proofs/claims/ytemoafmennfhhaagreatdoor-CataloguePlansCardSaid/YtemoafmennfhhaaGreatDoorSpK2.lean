/- CataloguePlans: runs. -/
import Derived.Test.YtemoafmennfhhaaGreatDoorSpLaw
namespace Go.Sy
open Go.RowKit Go.Proofs
set_option linter.unusedVariables false
set_option maxRecDepth 1000000
set_option maxHeartbeats 0
theorem run_1_4_2 : chk gP0_2 (.rng .u8 6 (-6)) (.rng .u8 5 (-1)) (.rng .u8 4 (-2)) = true:=by decide +kernel
theorem run_1_2_1 : chk gP0_1 (.rng .u8 6 (-6)) (.rng .u8 5 (-3)) (.rng .u8 4 (-3)) = true:=by decide +kernel
theorem run_6_3_0 : chk gP5_0 (.rng .u8 6 (-1)) (.rng .u8 4 (-1)) (.rng .u8 4 (-4)) = true:=by decide +kernel
theorem run_1_1_3 : chk gP0_3 (.rng .u8 6 (-6)) (.rng .u8 5 (-4)) (.rng .u8 4 (-1)) = true:=by decide +kernel
theorem run_3_2_2 : chk gP2_2 (.rng .u8 6 (-4)) (.rng .u8 3 (-1)) (.rng .u8 4 (-2)) = true:=by decide +kernel
theorem run_5_2_1 : chk gP4_1 (.rng .u8 6 (-2)) (.rng .u8 3 (-1)) (.rng .u8 4 (-3)) = true:=by decide +kernel
theorem run_1_0_0 : chk gP0_0 (.rng .u8 6 (-6)) (.rng .u8 5 (-5)) (.rng .u8 4 (-4)) = true:=by decide +kernel
theorem run_2_1_3 : chk gP1_3 (.rng .u8 6 (-5)) (.rng .u8 3 (-2)) (.rng .u8 4 (-1)) = true:=by decide +kernel
theorem run_4_0_2 : chk gP3_2 (.rng .u8 6 (-3)) (.rng .u8 3 (-3)) (.rng .u8 4 (-2)) = true:=by decide +kernel
theorem run_6_1_1 : chk gP5_1 (.rng .u8 6 (-1)) (.rng .u8 4 (-3)) (.rng .u8 4 (-3)) = true:=by decide +kernel
theorem run_3_0_0 : chk gP2_0 (.rng .u8 6 (-4)) (.rng .u8 3 (-3)) (.rng .u8 4 (-4)) = true:=by decide +kernel
theorem run_5_0_3 : chk gP4_3 (.rng .u8 6 (-2)) (.rng .u8 3 (-3)) (.rng .u8 4 (-1)) = true:=by decide +kernel
end Go.Sy
