/- A piece of the proof, made small by a program of ours. -/
import Derived.Test.YtihglcfnelokaaaGreatDoorP09
set_option linter.all false
set_option maxRecDepth 1000000
set_option maxHeartbeats 0
namespace Go.Sy
noncomputable section
open Go.RowKit Go.Proofs Go.Proofs.Tryz
section
def aj8:AV:=(.aO (.cons (.agg (qz [-1,0,0] .nil)) (.cons (.int .i64 0) .nil)))
def aj9:AV:=(.aO (.cons (.agg (qz [0,0,-1] .nil)) (.cons (.int .i64 0) .nil)))
def aka:AV:=(.aO (.cons (.agg (qz [0,-1,0] .nil)) (.cons (.int .i64 0) .nil)))
def ahN:AV:=(.aO (.cons (.agg (qz [0,0,1] .nil)) (.cons (.int .i64 0) .nil)))
def ahO:AV:=(.aO (.cons (.agg (qz [0,1,0] .nil)) (.cons (.int .i64 0) .nil)))
def ahP:AV:=(.aO (.cons (.agg (qz [1,0,0] .nil)) (.cons (.int .i64 0) .nil)))
def akb:AV:=(.aO (.cons (.agg (qz [0] .nil)) (.cons (.int .i64 0) .nil)))
def akc:AV:=(.aO (.cons (.agg (qz [1] .nil)) (.cons (.int .i64 0) .nil)))
def ahQ:AV:=(.aO (.cons (.agg (qz [2] .nil)) (.cons (.int .i64 0) .nil)))
def akd:AV:=(.agg (iz .i64 [1,0,0,0] (.cons (.str [48]) (.cons (.str [48]) (.cons (.str [48]) .nil)))))
def Wu:AV:=(.agg (qz [1,0,0,0,1,0,0,0,1,0,0,0] .nil))
def ahR:AV:=(.agg (iz .i64 [1,0,0,0] (.cons (.str [49]) (.cons (.str [48]) (.cons (.str [48]) .nil)))))
def abX:AV:=(.agg (qz [1,0,0,0,1,0,0,0,1,1,0,0] .nil))
def ahS:AV:=(.agg (iz .i64 [1,0,0,0] (.cons (.str [50]) (.cons (.str [48]) (.cons (.str [48]) .nil)))))
def abY:AV:=(.agg (qz [1,0,0,0,1,0,0,0,1,2,0,0] .nil))
def ahT:AV:=(.aO (.cons (.agg (qz [0,0,0] .nil)) (.cons (.int .i64 19) .nil)))
def ahU:AV:=(.aO (.cons (.agg (qz [4] .nil)) (.cons (.int .i64 0) .nil)))
def ahV:AV:=(.aO (.cons (.agg (qd [(1,2)] .nil)) (.cons (.int .i64 0) .nil)))
def ahW:AV:=(.agg (iz .i64 [1,0,0,0] (.cons (.str [49,47,50]) (.cons (.str [48]) (.cons (.str [48]) .nil)))))
def abZ:AV:=(.agg (qd [(1,0),(0,0),(0,0),(0,0),(1,0),(0,0),(0,0),(0,0),(1,0),(1,2),(0,0),(0,0)] .nil))
def ahX:AV:=(.ro 12 (iz .i64 [0,1,0,2,0,2,0,1,0,4,1,2,1,3,0,3,1,5,2,3,2,3,0,4,2,6,1,4,3,7,3,4,4,5,2,5,4,6,1,5,5,7,3,5,6,7,4,5] .nil))
def ahY:AV:=(.ro 6 (qd [(-1,0),(0,0),(0,0),(-1,2)] (.cons (.ro 4 (iz .i64 [0,1,3,2] .nil)) (qz [0,0,-1,0] (.cons (.ro 4 (iz .i64 [0,2,6,4] .nil)) (qz [0,-1,0,0] (.cons (.ro 4 (iz .i64 [0,4,5,1] .nil)) (qz [0,0,1,1] (.cons (.ro 4 (iz .i64 [1,5,7,3] .nil)) (qz [0,1,0,1] (.cons (.ro 4 (iz .i64 [2,3,7,6] .nil)) (qd [(1,0),(0,0),(0,0),(3,2)] (.cons (.ro 4 (iz .i64 [4,6,7,5] .nil)) .nil)))))))))))))
def ahZ:AV:=(.ro 8 (qd [(1,2),(0,0),(0,0),(1,2),(0,0),(1,0),(1,2),(1,0),(0,0),(1,2),(1,0),(1,0),(3,2),(0,0),(0,0),(3,2),(0,0),(1,0),(3,2),(1,0),(0,0),(3,2),(1,0),(1,0)] .nil))
def ah0:AV:=(.agg (.cons ahZ (.cons ahY (.cons ahX .nil))))
def ah1:AV:=(.agg (qd [(0,1),(0,0),(1,0)] .nil))
def ah2:AV:=(.agg (qd [(0,1),(1,0),(0,0)] .nil))
def ah3:AV:=(.agg (qd [(1,1),(0,0),(0,0)] .nil))
def ah4:AV:=(.aO (.cons (.agg (qz [3] .nil)) (.cons (.int .i64 0) .nil)))
def ah5:AV:=(.agg (iz .i64 [1,0,0,0] (.cons (.str [51]) (.cons (.str [48]) (.cons (.str [48]) .nil)))))
def ab0:AV:=(.agg (qz [1,0,0,0,1,0,0,0,1,3,0,0] .nil))
def ah6:AV:=(.agg (qd [(1,2),(1,2),(1,2)] .nil))
def ah7:AV:=(.agg (qd [(7,2),(1,2),(1,2)] .nil))
end
end
end Go.Sy
