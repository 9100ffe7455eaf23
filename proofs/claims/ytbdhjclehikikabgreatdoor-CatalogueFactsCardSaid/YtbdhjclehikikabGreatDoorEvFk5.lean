/- CatalogueFacts: the runs of kind 5. -/
import Derived.Test.YtbdhjclehikikabGreatDoorEvFa
namespace Go.Ev
open Go.Proofs
set_option maxRecDepth 1000000
set_option maxHeartbeats 0
theorem run_5_0 : (band (chk (.rng .u8 6 (-2)) (.rng .u8 3 (-3)) (.rng .u8 4 (-4))) (band (chk (.rng .u8 6 (-2)) (.rng .u8 3 (-3)) (.rng .u8 4 (-3))) (band (chk (.rng .u8 6 (-2)) (.rng .u8 3 (-3)) (.rng .u8 4 (-2))) (chk (.rng .u8 6 (-2)) (.rng .u8 3 (-3)) (.rng .u8 4 (-1)))))) = true := by decide +kernel
theorem run_5_1 : (band (chk (.rng .u8 6 (-2)) (.rng .u8 3 (-2)) (.rng .u8 4 (-4))) (band (chk (.rng .u8 6 (-2)) (.rng .u8 3 (-2)) (.rng .u8 4 (-3))) (band (chk (.rng .u8 6 (-2)) (.rng .u8 3 (-2)) (.rng .u8 4 (-2))) (chk (.rng .u8 6 (-2)) (.rng .u8 3 (-2)) (.rng .u8 4 (-1)))))) = true := by decide +kernel
theorem run_5_2 : (band (chk (.rng .u8 6 (-2)) (.rng .u8 3 (-1)) (.rng .u8 4 (-4))) (band (chk (.rng .u8 6 (-2)) (.rng .u8 3 (-1)) (.rng .u8 4 (-3))) (band (chk (.rng .u8 6 (-2)) (.rng .u8 3 (-1)) (.rng .u8 4 (-2))) (chk (.rng .u8 6 (-2)) (.rng .u8 3 (-1)) (.rng .u8 4 (-1)))))) = true := by decide +kernel
end Go.Ev
