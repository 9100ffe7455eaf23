/- CatalogueGaps: runs of kind 1, count 6. -/
import Derived.Test.YtnffnbbphpobeaaGreatDoorSgOv
namespace Go.Sy
open Go.RowKit Go.Proofs
set_option linter.unusedVariables false
set_option maxRecDepth 1000000
set_option maxHeartbeats 0
theorem run_1_4_2 : chk (.rng .u8 6 (-6)) (.rng .u8 5 (-1)) (.rng .u8 4 (-2)) = true := by decide +kernel
theorem run_1_4_3 : chk (.rng .u8 6 (-6)) (.rng .u8 5 (-1)) (.rng .u8 4 (-1)) = true := by decide +kernel
end Go.Sy
