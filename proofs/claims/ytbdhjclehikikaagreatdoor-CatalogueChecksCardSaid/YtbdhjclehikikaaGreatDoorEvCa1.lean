/- CatalogueChecks: the frame of the cases, and the kinds that are none. -/
import Derived.Test.YtbdhjclehikikaaGreatDoorEvChk
namespace Go.Ev
open Go.Proofs
set_option maxRecDepth 1000000
set_option maxHeartbeats 0
noncomputable section
/-- Three arguments. -/
def args3 (x y z : AV) : AV := .cons x (.cons y (.cons z .nil))
def chk (x y z : AV) : Bool := (callO Tryz.prog chkOv 1000 30 (.fn 3) (args3 x y z) (startWith tabs 64)).isTrue
end
theorem chk_low : chk (.rng .i64 (-9223372036854775808) 0) (.rng .i64 (-9223372036854775808) 9223372036854775807) (.rng .i64 (-9223372036854775808) 9223372036854775807) = true := by decide +kernel
theorem chk_high : chk (.rng .i64 7 9223372036854775807) (.rng .i64 (-9223372036854775808) 9223372036854775807) (.rng .i64 (-9223372036854775808) 9223372036854775807) = true := by decide +kernel
end Go.Ev
