/- Values. -/
import Derived.Test.YtpbjekedjbjeeaaGreatDoorStBase
import Derived.Test.YtpbjekedjbjeeaaGreatDoorSyBox
namespace Go.Sy
open Go.RowKit Go.Proofs
set_option linter.unusedVariables false
set_option maxRecDepth 1000000
set_option maxHeartbeats 0
noncomputable section
def stv0 : AV := (.tup (.cons (.agg (qz [-1, 0, 0] .nil)) (.cons (.int .i64 0) .nil)))
def stv1 : AV := (.tup (.cons (.agg (qz [0, 0, -1] .nil)) (.cons (.int .i64 0) .nil)))
def stv2 : AV := (.tup (.cons (.agg (qz [0, -1, 0] .nil)) (.cons (.int .i64 0) .nil)))
def stv3 : AV := (.tup (.cons (.agg (qz [0, 0, 1] .nil)) (.cons (.int .i64 0) .nil)))
def stv4 : AV := (.tup (.cons (.agg (qz [0, 1, 0] .nil)) (.cons (.int .i64 0) .nil)))
def stv5 : AV := (.tup (.cons (.agg (qz [1, 0, 0] .nil)) (.cons (.int .i64 0) .nil)))
def stv6 : AV := (.tup (.cons (.agg (qz [0] .nil)) (.cons (.int .i64 0) .nil)))
def stv7 : AV := (.tup (.cons (.agg (qz [1] .nil)) (.cons (.int .i64 0) .nil)))
def stv8 : AV := (.tup (.cons (.agg (qz [2] .nil)) (.cons (.int .i64 0) .nil)))
def stv9 : AV := (.agg (iz .i64 [1, 0, 0, 0] (.cons (.str [48]) (.cons (.str [48]) (.cons (.str [48]) .nil)))))
def stv10 : AV := (.agg (qz [1, 0, 0, 0, 1, 0, 0, 0, 1, 0, 0, 0] .nil))
def stv11 : AV := (.agg (iz .i64 [1, 0, 0, 0] (.cons (.str [49]) (.cons (.str [48]) (.cons (.str [48]) .nil)))))
def stv12 : AV := (.agg (qz [1, 0, 0, 0, 1, 0, 0, 0, 1, 1, 0, 0] .nil))
def stv13 : AV := (.agg (iz .i64 [1, 0, 0, 0] (.cons (.str [50]) (.cons (.str [48]) (.cons (.str [48]) .nil)))))
def stv14 : AV := (.agg (qz [1, 0, 0, 0, 1, 0, 0, 0, 1, 2, 0, 0] .nil))
def stv15 : AV := (.tup (.cons (.agg (qz [0, 0, 0] .nil)) (.cons (.int .i64 19) .nil)))
def stv16 : AV := (.tup (.cons (.agg (qd [(0, 1)] .nil)) (.cons (.agg (qd [(2, 1)] .nil)) (.cons (.bool true) (.cons (.int .i64 0) .nil)))))
def stv17 : AV := (.tup (.cons (.agg (qd [(1, 1)] .nil)) (.cons (.agg (qd [(3, 1)] .nil)) (.cons (.bool true) (.cons (.int .i64 0) .nil)))))
def stv18 : AV := (.tup (.cons (.agg (qd [(-2, 1)] .nil)) (.cons (.agg (qd [(0, 1)] .nil)) (.cons (.bool true) (.cons (.int .i64 0) .nil)))))
def stv19 : AV := (.tup (.cons (.agg (qd [(-3, 1)] .nil)) (.cons (.agg (qd [(-1, 1)] .nil)) (.cons (.bool true) (.cons (.int .i64 0) .nil)))))
def stv20 : AV := (.tup (.cons (.agg (qd [(2, 1)] .nil)) (.cons (.agg (qd [(4, 1)] .nil)) (.cons (.bool true) (.cons (.int .i64 0) .nil)))))
def stv21 : AV := (.tup (.cons (.agg (qz [4] .nil)) (.cons (.int .i64 0) .nil)))
def stv22 : AV := (.tup (.cons (.agg (qd [(1, 2)] .nil)) (.cons (.int .i64 0) .nil)))
def stv23 : AV := (.agg (iz .i64 [1, 0, 0, 0] (.cons (.str [49, 47, 50]) (.cons (.str [48]) (.cons (.str [48]) .nil)))))
def stv24 : AV := (.agg (qd [(1, 0), (0, 0), (0, 0), (0, 0), (1, 0), (0, 0), (0, 0), (0, 0), (1, 0), (1, 2), (0, 0), (0, 0)] .nil))
def stv25 : AV := (.ro 12 (iz .i64 [0, 1, 0, 2, 0, 2, 0, 1, 0, 4, 1, 2, 1, 3, 0, 3, 1, 5, 2, 3, 2, 3, 0, 4, 2, 6, 1, 4, 3, 7, 3, 4, 4, 5, 2, 5, 4, 6, 1, 5, 5, 7, 3, 5, 6, 7, 4, 5] .nil))
def stv26 : AV := (.ro 6 (qd [(-1, 0), (0, 0), (0, 0), (-1, 2)] (.cons (.ro 4 (iz .i64 [0, 1, 3, 2] .nil)) (qz [0, 0, -1, 0] (.cons (.ro 4 (iz .i64 [0, 2, 6, 4] .nil)) (qz [0, -1, 0, 0] (.cons (.ro 4 (iz .i64 [0, 4, 5, 1] .nil)) (qz [0, 0, 1, 1] (.cons (.ro 4 (iz .i64 [1, 5, 7, 3] .nil)) (qz [0, 1, 0, 1] (.cons (.ro 4 (iz .i64 [2, 3, 7, 6] .nil)) (qd [(1, 0), (0, 0), (0, 0), (3, 2)] (.cons (.ro 4 (iz .i64 [4, 6, 7, 5] .nil)) .nil)))))))))))))
def stv27 : AV := (.ro 8 (qd [(1, 2), (0, 0), (0, 0), (1, 2), (0, 0), (1, 0), (1, 2), (1, 0), (0, 0), (1, 2), (1, 0), (1, 0), (3, 2), (0, 0), (0, 0), (3, 2), (0, 0), (1, 0), (3, 2), (1, 0), (0, 0), (3, 2), (1, 0), (1, 0)] .nil))
def stv28 : AV := (.agg (.cons stv27 (.cons stv26 (.cons stv25 .nil))))
def stv29 : AV := (.agg (qd [(0, 1), (0, 0), (1, 0)] .nil))
def stv30 : AV := (.agg (qd [(0, 1), (1, 0), (0, 0)] .nil))
def stv31 : AV := (.agg (qd [(1, 1), (0, 0), (0, 0)] .nil))
def stv32 : AV := (.tup (.cons (.agg (qz [3] .nil)) (.cons (.int .i64 0) .nil)))
def stv33 : AV := (.agg (iz .i64 [1, 0, 0, 0] (.cons (.str [51]) (.cons (.str [48]) (.cons (.str [48]) .nil)))))
def stv34 : AV := (.agg (qz [1, 0, 0, 0, 1, 0, 0, 0, 1, 3, 0, 0] .nil))
def stv35 : AV := (.agg (qd [(1, 2), (1, 2), (1, 2)] .nil))
def stv36 : AV := (.agg (qd [(7, 2), (1, 2), (1, 2)] .nil))
end
end Go.Sy
