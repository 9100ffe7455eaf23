/- A piece of the proof, made small by a program of ours. -/
import Derived.Test.YtilmgbneiikbiaaGreatDoorP27
set_option linter.all false
set_option maxRecDepth 1000000
set_option maxHeartbeats 0
namespace Go.Sy
noncomputable section
open Go.RowKit Go.Proofs Go.Proofs.Tryz
def ab3:List (AV×AV):=[
 ((.cons (.str [48]) (.cons (.int .i64 400) .nil)),ajQ),
 ((.cons (.str [49]) (.cons (.int .i64 400) .nil)),ajR),
 ((.cons (.str [50]) (.cons (.int .i64 400) .nil)),ahu),
 ((.cons (.str [50]) (.cons (.int .i64 65536) .nil)),ahu),
 ((.cons (.str [52]) (.cons (.int .i64 65536) .nil)),ahy),
 ((.cons (.str [49,47,50]) (.cons (.int .i64 400) .nil)),ahz),
 ((.cons (.str [51]) (.cons (.int .i64 400) .nil)),ahI)]
theorem WK:cS prog vq 94 ab3=true:=by decide+kernel
def ab4:List (AV×AV):=[
 ((.cons (.agg (qz [0] .nil)) .nil),(.str [48])),
 ((.cons (.agg (qz [1] .nil)) .nil),(.str [49])),
 ((.cons (.agg (qz [2] .nil)) .nil),(.str [50])),
 ((.cons (.agg (qz [-1] .nil)) .nil),(.str [45,49])),
 ((.cons (.agg (qd [(1,1)] .nil)) .nil),(.str [49])),
 ((.cons (.agg (qd [(2,1)] .nil)) .nil),(.str [50])),
 ((.cons (.agg (qd [(4,1)] .nil)) .nil),(.str [52])),
 ((.cons (.agg (qd [(3,1)] .nil)) .nil),(.str [51])),
 ((.cons (.agg (qd [(1,2)] .nil)) .nil),(.str [49,47,50]))]
theorem WL:cS prog vq 51 ab4=true:=by decide+kernel
def ab5:List (AV×AV):=[
 ((.cons (.agg (qz [-1,0,0] .nil)) .nil),ajN),
 ((.cons (.agg (qz [0,0,-1] .nil)) .nil),ajO),
 ((.cons (.agg (qz [0,-1,0] .nil)) .nil),ajP),
 ((.cons (.agg (qz [0,0,1] .nil)) .nil),ahr),
 ((.cons (.agg (qz [0,1,0] .nil)) .nil),ahs),
 ((.cons (.agg (qz [1,0,0] .nil)) .nil),aht),
 ((.cons (.agg (qz [0,0,0] .nil)) .nil),ahx),
 ((.cons ahF .nil),ahr),
 ((.cons ahG .nil),ahs),
 ((.cons ahH .nil),aht)]
theorem WM:cS prog vq 43 ab5=true:=by decide+kernel
def ab6:List (AV×AV):=[
 ((.cons ajS .nil),(.aS (.cons WJ (.cons (.int .i64 0) .nil)))),
 ((.cons ahv .nil),(.aS (.cons abZ (.cons (.int .i64 0) .nil)))),
 ((.cons ahw .nil),(.aS (.cons ab0 (.cons (.int .i64 0) .nil)))),
 ((.cons ahA .nil),(.aS (.cons ab1 (.cons (.int .i64 0) .nil)))),
 ((.cons ahJ .nil),(.aS (.cons ab2 (.cons (.int .i64 0) .nil))))]
theorem WN:cS prog vq 70 ab6=true:=by decide+kernel
def ab7:List (AV×AV):=[
 ((.cons (bxI 0 0 0 1 1 1) .nil),(bxR 0 0 0 1 1 1)),
 ((.cons (bxI 3 0 0 4 1 1) .nil),(bxR 3 0 0 4 1 1))]
theorem WO:cS prog vq 192 ab7=true:=by decide+kernel
end
end Go.Sy
