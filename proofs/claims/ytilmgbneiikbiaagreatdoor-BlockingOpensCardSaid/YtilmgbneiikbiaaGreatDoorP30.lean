/- A piece of the proof, made small by a program of ours. -/
import Derived.Test.YtilmgbneiikbiaaGreatDoorP29
set_option linter.all false
set_option maxRecDepth 1000000
set_option maxHeartbeats 0
namespace Go.Sy
noncomputable section
open Go.RowKit Go.Proofs Go.Proofs.Tryz
def aca:List (AV×AV):=[
 ((.cons (.agg (.cons (bxI 0 0 0 1 1 1) .nil)) .nil),(.aS (.cons (GD 0 0 0 1 1 1) (.cons (.int .i64 0) .nil)))),
 ((.cons (.agg (.cons (bxI 3 0 0 4 1 1) .nil)) .nil),(.aS (.cons (GD 3 0 0 4 1 1) (.cons (.int .i64 0) .nil))))]
theorem WR:cS prog ab9 131 aca=true:=by decide+kernel
end
end Go.Sy
