/- meeting.Axes: every order of the map, in part. -/
import Derived.Test.YtemoafmennfhhaaGreatDoorStAx1
namespace Go.Sy
open Go.RowKit Go.Proofs
set_option linter.unusedVariables false
set_option maxRecDepth 1000000
set_option maxHeartbeats 0
theorem ax_t0 : bCode 10 (axCx axCall) (nthSeq 7 axC) (axLeaf axCall axN 0) axR [] (axH axN) = true:=by decide +kernel
theorem ax_t1 : bCode 10 (axCx axCall) (nthSeq 7 axC) (axLeaf axCall axN 1) axR [] (axH axN) = true:=by decide +kernel
theorem ax_t2 : bCode 10 (axCx axCall) (nthSeq 7 axC) (axLeaf axCall axN 2) axR [] (axH axN) = true:=by decide +kernel
theorem ax_t3 : bCode 10 (axCx axCall) (nthSeq 7 axC) (axLeaf axCall axN 3) axR [] (axH axN) = true:=by decide +kernel
theorem ax_t4 : bCode 10 (axCx axCall) (nthSeq 7 axC) (axLeaf axCall axN 4) axR [] (axH axN) = true:=by decide +kernel
theorem ax_t5 : bCode 10 (axCx axCall) (nthSeq 7 axC) (axLeaf axCall axN 5) axR [] (axH axN) = true:=by decide +kernel
theorem ax_t6 : bCode 10 (axCx axCall) (nthSeq 7 axC) (axLeaf axCall axN 6) axR [] (axH axN) = true:=by decide +kernel
theorem ax_t7 : bCode 10 (axCx axCall) (nthSeq 7 axC) (axLeaf axCall axN 7) axR [] (axH axN) = true:=by decide +kernel
theorem ax_t8 : bCode 10 (axCx axCall) (nthSeq 7 axC) (axLeaf axCall axN 8) axR [] (axH axN) = true:=by decide +kernel
theorem ax_t9 : bCode 10 (axCx axCall) (nthSeq 7 axC) (axLeaf axCall axN 9) axR [] (axH axN) = true:=by decide +kernel
theorem ax_rng : bCode 10 (axCx axCall) (nthSeq 7 axC) (axRng axN) axR [] (axH axN) = true:=by decide +kernel
end Go.Sy
