/- CatalogueGaps: the runs of kind 2, count 2. -/
import Derived.Test.YtnffnbbphpobeaaGreatDoorSgOv
namespace Go.Sy
open Go.RowKit Go.Proofs
set_option linter.unusedVariables false
set_option maxRecDepth 1000000
set_option maxHeartbeats 0
theorem run_2_1_0 : chk (.rng .u8 6 (-5)) (.rng .u8 3 (-2)) (.rng .u8 4 (-4)) = true := by decide +kernel
theorem run_2_1_1 : chk (.rng .u8 6 (-5)) (.rng .u8 3 (-2)) (.rng .u8 4 (-3)) = true := by decide +kernel
theorem run_2_1_2 : chk (.rng .u8 6 (-5)) (.rng .u8 3 (-2)) (.rng .u8 4 (-2)) = true := by decide +kernel
theorem run_2_1_3 : chk (.rng .u8 6 (-5)) (.rng .u8 3 (-2)) (.rng .u8 4 (-1)) = true := by decide +kernel
end Go.Sy
