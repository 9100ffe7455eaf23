/- CatalogueGaps: the runs of kind 5, count 3. -/
import Derived.Test.YtnffnbbphpobeaaGreatDoorSgOv
namespace Go.Sy
open Go.RowKit Go.Proofs
set_option linter.unusedVariables false
set_option maxRecDepth 1000000
set_option maxHeartbeats 0
theorem run_5_2_0 : chk (.rng .u8 6 (-2)) (.rng .u8 3 (-1)) (.rng .u8 4 (-4)) = true := by decide +kernel
theorem run_5_2_1 : chk (.rng .u8 6 (-2)) (.rng .u8 3 (-1)) (.rng .u8 4 (-3)) = true := by decide +kernel
theorem run_5_2_2 : chk (.rng .u8 6 (-2)) (.rng .u8 3 (-1)) (.rng .u8 4 (-2)) = true := by decide +kernel
theorem run_5_2_3 : chk (.rng .u8 6 (-2)) (.rng .u8 3 (-1)) (.rng .u8 4 (-1)) = true := by decide +kernel
end Go.Sy
