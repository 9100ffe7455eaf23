/- CatalogueChecks: the cases of kind 4. -/
import Derived.Test.YtbdhjclehikikaaGreatDoorEvCa1
namespace Go.Ev
open Go.Proofs
set_option maxRecDepth 1000000
set_option maxHeartbeats 0
theorem chk_kind4 : (band (chk (.int .i64 4) (.rng .i64 (-9223372036854775808) 1) (.rng .i64 (-9223372036854775808) 9223372036854775807)) (band (chk (.int .i64 4) (.rng .i64 5 9223372036854775807) (.rng .i64 (-9223372036854775808) 9223372036854775807)) (band (chk (.int .i64 4) (.rng .i64 2 4) (.rng .i64 (-9223372036854775808) 0)) (band (chk (.int .i64 4) (.rng .i64 2 4) (.rng .i64 65 9223372036854775807)) (band (chk (.int .i64 4) (.int .i64 2) (.rng .i64 1 64)) (band (chk (.int .i64 4) (.int .i64 3) (.rng .i64 1 64)) (chk (.int .i64 4) (.int .i64 4) (.rng .i64 1 64)))))))) = true := by decide +kernel
end Go.Ev
