/- meeting.Axes: every order of the map, in part. -/
import Derived.Test.YtemoafmennfhhaaGreatDoorStAx1
namespace Go.Sy
open Go.RowKit Go.Proofs
set_option linter.unusedVariables false
set_option maxRecDepth 1000000
set_option maxHeartbeats 0
theorem ax_t10 : bCode 10 (axCx axCall) (nthSeq 7 axC) (axLeaf axCall axN 10) axR [] (axH axN) = true:=by decide +kernel
theorem ax_t11 : bCode 10 (axCx axCall) (nthSeq 7 axC) (axLeaf axCall axN 11) axR [] (axH axN) = true:=by decide +kernel
theorem ax_t12 : bCode 10 (axCx axCall) (nthSeq 7 axC) (axLeaf axCall axN 12) axR [] (axH axN) = true:=by decide +kernel
theorem ax_t13 : bCode 10 (axCx axCall) (nthSeq 7 axC) (axLeaf axCall axN 13) axR [] (axH axN) = true:=by decide +kernel
theorem ax_t14 : bCode 10 (axCx axCall) (nthSeq 7 axC) (axLeaf axCall axN 14) axR [] (axH axN) = true:=by decide +kernel
theorem ax_t15 : bCode 10 (axCx axCall) (nthSeq 7 axC) (axLeaf axCall axN 15) axR [] (axH axN) = true:=by decide +kernel
theorem ax_t16 : bCode 10 (axCx axCall) (nthSeq 7 axC) (axLeaf axCall axN 16) axR [] (axH axN) = true:=by decide +kernel
theorem ax_t17 : bCode 10 (axCx axCall) (nthSeq 7 axC) (axLeaf axCall axN 17) axR [] (axH axN) = true:=by decide +kernel
theorem ax_t18 : bCode 10 (axCx axCall) (nthSeq 7 axC) (axLeaf axCall axN 18) axR [] (axH axN) = true:=by decide +kernel
theorem ax_t19 : bCode 10 (axCx axCall) (nthSeq 7 axC) (axLeaf axCall axN 19) axR [] (axH axN) = true:=by decide +kernel
end Go.Sy
