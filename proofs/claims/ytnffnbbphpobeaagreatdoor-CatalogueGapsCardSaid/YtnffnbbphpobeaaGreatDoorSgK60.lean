/- CatalogueGaps: the runs of kind 6, count 1. -/
import Derived.Test.YtnffnbbphpobeaaGreatDoorSgOv
namespace Go.Sy
open Go.RowKit Go.Proofs
set_option linter.unusedVariables false
set_option maxRecDepth 1000000
set_option maxHeartbeats 0
theorem run_6_0_0 : chk (.rng .u8 6 (-1)) (.rng .u8 4 (-4)) (.rng .u8 4 (-4)) = true := by decide +kernel
theorem run_6_0_1 : chk (.rng .u8 6 (-1)) (.rng .u8 4 (-4)) (.rng .u8 4 (-3)) = true := by decide +kernel
theorem run_6_0_2 : chk (.rng .u8 6 (-1)) (.rng .u8 4 (-4)) (.rng .u8 4 (-2)) = true := by decide +kernel
theorem run_6_0_3 : chk (.rng .u8 6 (-1)) (.rng .u8 4 (-4)) (.rng .u8 4 (-1)) = true := by decide +kernel
end Go.Sy
