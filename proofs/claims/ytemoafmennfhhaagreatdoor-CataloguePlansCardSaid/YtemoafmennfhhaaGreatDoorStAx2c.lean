/- meeting.Axes: every order of the map, in part. -/
import Derived.Test.YtemoafmennfhhaaGreatDoorStAx1
namespace Go.Sy
open Go.RowKit Go.Proofs
set_option linter.unusedVariables false
set_option maxRecDepth 1000000
set_option maxHeartbeats 0
theorem ax_t20 : bCode 10 (axCx axCall) (nthSeq 7 axC) (axLeaf axCall axN 20) axR [] (axH axN) = true:=by decide +kernel
theorem ax_t21 : bCode 10 (axCx axCall) (nthSeq 7 axC) (axLeaf axCall axN 21) axR [] (axH axN) = true:=by decide +kernel
theorem ax_t22 : bCode 10 (axCx axCall) (nthSeq 7 axC) (axLeaf axCall axN 22) axR [] (axH axN) = true:=by decide +kernel
theorem ax_t23 : bCode 10 (axCx axCall) (nthSeq 7 axC) (axLeaf axCall axN 23) axR [] (axH axN) = true:=by decide +kernel
theorem ax_t24 : bCode 10 (axCx axCall) (nthSeq 7 axC) (axLeaf axCall axN 24) axR [] (axH axN) = true:=by decide +kernel
theorem ax_t25 : bCode 10 (axCx axCall) (nthSeq 7 axC) (axLeaf axCall axN 25) axR [] (axH axN) = true:=by decide +kernel
theorem ax_t26 : bCode 10 (axCx axCall) (nthSeq 7 axC) (axLeaf axCall axN 26) axR [] (axH axN) = true:=by decide +kernel
theorem ax_t27 : bCode 10 (axCx axCall) (nthSeq 7 axC) (axLeaf axCall axN 27) axR [] (axH axN) = true:=by decide +kernel
theorem ax_t28 : bCode 10 (axCx axCall) (nthSeq 7 axC) (axLeaf axCall axN 28) axR [] (axH axN) = true:=by decide +kernel
theorem ax_t29 : bCode 10 (axCx axCall) (nthSeq 7 axC) (axLeaf axCall axN 29) axR [] (axH axN) = true:=by decide +kernel
end Go.Sy
