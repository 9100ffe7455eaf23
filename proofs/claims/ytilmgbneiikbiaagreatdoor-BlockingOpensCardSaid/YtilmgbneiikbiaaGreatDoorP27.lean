/- A piece of the proof, made small by a program of ours. -/
import Derived.Test.YtilmgbneiikbiaaGreatDoorP09
set_option linter.all false
set_option maxRecDepth 1000000
set_option maxHeartbeats 0
namespace Go.Sy
noncomputable section
open Go.RowKit Go.Proofs Go.Proofs.Tryz
section
def ajN:AV:=(.aS (.cons (.agg (qz [-1,0,0] .nil)) (.cons (.int .i64 0) .nil)))
def ajO:AV:=(.aS (.cons (.agg (qz [0,0,-1] .nil)) (.cons (.int .i64 0) .nil)))
def ajP:AV:=(.aS (.cons (.agg (qz [0,-1,0] .nil)) (.cons (.int .i64 0) .nil)))
def ahr:AV:=(.aS (.cons (.agg (qz [0,0,1] .nil)) (.cons (.int .i64 0) .nil)))
def ahs:AV:=(.aS (.cons (.agg (qz [0,1,0] .nil)) (.cons (.int .i64 0) .nil)))
def aht:AV:=(.aS (.cons (.agg (qz [1,0,0] .nil)) (.cons (.int .i64 0) .nil)))
def ajQ:AV:=(.aS (.cons (.agg (qz [0] .nil)) (.cons (.int .i64 0) .nil)))
def ajR:AV:=(.aS (.cons (.agg (qz [1] .nil)) (.cons (.int .i64 0) .nil)))
def ahu:AV:=(.aS (.cons (.agg (qz [2] .nil)) (.cons (.int .i64 0) .nil)))
def ajS:AV:=(.agg (iz .i64 [1,0,0,0] (.cons (.str [48]) (.cons (.str [48]) (.cons (.str [48]) .nil)))))
def WJ:AV:=(.agg (qz [1,0,0,0,1,0,0,0,1,0,0,0] .nil))
def ahv:AV:=(.agg (iz .i64 [1,0,0,0] (.cons (.str [49]) (.cons (.str [48]) (.cons (.str [48]) .nil)))))
def abZ:AV:=(.agg (qz [1,0,0,0,1,0,0,0,1,1,0,0] .nil))
def ahw:AV:=(.agg (iz .i64 [1,0,0,0] (.cons (.str [50]) (.cons (.str [48]) (.cons (.str [48]) .nil)))))
def ab0:AV:=(.agg (qz [1,0,0,0,1,0,0,0,1,2,0,0] .nil))
def ahx:AV:=(.aS (.cons (.agg (qz [0,0,0] .nil)) (.cons (.int .i64 19) .nil)))
def ahy:AV:=(.aS (.cons (.agg (qz [4] .nil)) (.cons (.int .i64 0) .nil)))
def ahz:AV:=(.aS (.cons (.agg (qd [(1,2)] .nil)) (.cons (.int .i64 0) .nil)))
def ahA:AV:=(.agg (iz .i64 [1,0,0,0] (.cons (.str [49,47,50]) (.cons (.str [48]) (.cons (.str [48]) .nil)))))
def ab1:AV:=(.agg (qd [(1,0),(0,0),(0,0),(0,0),(1,0),(0,0),(0,0),(0,0),(1,0),(1,2),(0,0),(0,0)] .nil))
def ahB:AV:=(.ro 12 (iz .i64 [0,1,0,2,0,2,0,1,0,4,1,2,1,3,0,3,1,5,2,3,2,3,0,4,2,6,1,4,3,7,3,4,4,5,2,5,4,6,1,5,5,7,3,5,6,7,4,5] .nil))
def ahC:AV:=(.ro 6 (qd [(-1,0),(0,0),(0,0),(-1,2)] (.cons (.ro 4 (iz .i64 [0,1,3,2] .nil)) (qz [0,0,-1,0] (.cons (.ro 4 (iz .i64 [0,2,6,4] .nil)) (qz [0,-1,0,0] (.cons (.ro 4 (iz .i64 [0,4,5,1] .nil)) (qz [0,0,1,1] (.cons (.ro 4 (iz .i64 [1,5,7,3] .nil)) (qz [0,1,0,1] (.cons (.ro 4 (iz .i64 [2,3,7,6] .nil)) (qd [(1,0),(0,0),(0,0),(3,2)] (.cons (.ro 4 (iz .i64 [4,6,7,5] .nil)) .nil)))))))))))))
def ahD:AV:=(.ro 8 (qd [(1,2),(0,0),(0,0),(1,2),(0,0),(1,0),(1,2),(1,0),(0,0),(1,2),(1,0),(1,0),(3,2),(0,0),(0,0),(3,2),(0,0),(1,0),(3,2),(1,0),(0,0),(3,2),(1,0),(1,0)] .nil))
def ahE:AV:=(.agg (.cons ahD (.cons ahC (.cons ahB .nil))))
def ahF:AV:=(.agg (qd [(0,1),(0,0),(1,0)] .nil))
def ahG:AV:=(.agg (qd [(0,1),(1,0),(0,0)] .nil))
def ahH:AV:=(.agg (qd [(1,1),(0,0),(0,0)] .nil))
def ahI:AV:=(.aS (.cons (.agg (qz [3] .nil)) (.cons (.int .i64 0) .nil)))
def ahJ:AV:=(.agg (iz .i64 [1,0,0,0] (.cons (.str [51]) (.cons (.str [48]) (.cons (.str [48]) .nil)))))
def ab2:AV:=(.agg (qz [1,0,0,0,1,0,0,0,1,3,0,0] .nil))
def ahK:AV:=(.agg (qd [(1,2),(1,2),(1,2)] .nil))
def ahL:AV:=(.agg (qd [(7,2),(1,2),(1,2)] .nil))
end
end
end Go.Sy
