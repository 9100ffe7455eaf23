/- A piece of the proof, made small by a program of ours. -/
import Derived.Test.YtihglcfnelokaaaGreatDoorP25
set_option linter.all false
set_option maxRecDepth 1000000
set_option maxHeartbeats 0
namespace Go.Sy
noncomputable section
open Go.RowKit Go.Proofs Go.Proofs.Tryz
def ab1:List (AV×AV):=[
 ((.cons (.str [48]) (.cons (.int .i64 400) .nil)),akb),
 ((.cons (.str [49]) (.cons (.int .i64 400) .nil)),akc),
 ((.cons (.str [50]) (.cons (.int .i64 400) .nil)),ahQ),
 ((.cons (.str [50]) (.cons (.int .i64 65536) .nil)),ahQ),
 ((.cons (.str [52]) (.cons (.int .i64 65536) .nil)),ahU),
 ((.cons (.str [49,47,50]) (.cons (.int .i64 400) .nil)),ahV),
 ((.cons (.str [51]) (.cons (.int .i64 400) .nil)),ah4)]
theorem Wv:cP prog uy 146 ab1=true:=by decide+kernel
def ab2:List (AV×AV):=[
 ((.cons (.agg (qz [0] .nil)) .nil),(.str [48])),
 ((.cons (.agg (qz [1] .nil)) .nil),(.str [49])),
 ((.cons (.agg (qz [2] .nil)) .nil),(.str [50])),
 ((.cons (.agg (qz [-1] .nil)) .nil),(.str [45,49])),
 ((.cons (.agg (qd [(1,1)] .nil)) .nil),(.str [49])),
 ((.cons (.agg (qd [(2,1)] .nil)) .nil),(.str [50])),
 ((.cons (.agg (qd [(4,1)] .nil)) .nil),(.str [52])),
 ((.cons (.agg (qd [(3,1)] .nil)) .nil),(.str [51])),
 ((.cons (.agg (qd [(1,2)] .nil)) .nil),(.str [49,47,50]))]
theorem Ww:cP prog uy 20 ab2=true:=by decide+kernel
def ab3:List (AV×AV):=[
 ((.cons (.agg (qz [-1,0,0] .nil)) .nil),aj8),
 ((.cons (.agg (qz [0,0,-1] .nil)) .nil),aj9),
 ((.cons (.agg (qz [0,-1,0] .nil)) .nil),aka),
 ((.cons (.agg (qz [0,0,1] .nil)) .nil),ahN),
 ((.cons (.agg (qz [0,1,0] .nil)) .nil),ahO),
 ((.cons (.agg (qz [1,0,0] .nil)) .nil),ahP),
 ((.cons (.agg (qz [0,0,0] .nil)) .nil),ahT),
 ((.cons ah1 .nil),ahN),
 ((.cons ah2 .nil),ahO),
 ((.cons ah3 .nil),ahP)]
theorem Wx:cP prog uy 17 ab3=true:=by decide+kernel
def ab4:List (AV×AV):=[
 ((.cons akd .nil),(.aO (.cons Wu (.cons (.int .i64 0) .nil)))),
 ((.cons ahR .nil),(.aO (.cons abX (.cons (.int .i64 0) .nil)))),
 ((.cons ahS .nil),(.aO (.cons abY (.cons (.int .i64 0) .nil)))),
 ((.cons ahW .nil),(.aO (.cons abZ (.cons (.int .i64 0) .nil)))),
 ((.cons ah5 .nil),(.aO (.cons ab0 (.cons (.int .i64 0) .nil))))]
theorem Wy:cP prog uy 67 ab4=true:=by decide+kernel
def ab5:List (AV×AV):=[
 ((.cons (bxI 0 0 0 1 1 1) .nil),(bxR 0 0 0 1 1 1)),
 ((.cons (bxI 3 0 0 4 1 1) .nil),(bxR 3 0 0 4 1 1))]
theorem Wz:cP prog uy 162 ab5=true:=by decide+kernel
end
end Go.Sy
