/- What package plan and planner ask again and again: tables; what is known beforehand, by kind and scale. -/
import Derived.Test.YtemoafmennfhhaaGreatDoorStWo
namespace Go.Sy
open Go.RowKit Go.Proofs
set_option linter.unusedVariables false
set_option maxRecDepth 1000000
set_option maxHeartbeats 0
noncomputable section
def stqD : List (AV × AV):=[
  ((.cons (.agg (.cons (.str [49]) (.cons (.str [48]) (.cons (.str [48]) .nil)))) .nil),(.int .i64 0)),
  ((.cons (.agg (.cons (.str [45,49]) (.cons (.str [48]) (.cons (.str [48]) .nil)))) .nil),(.int .i64 0)),
  ((.cons (.agg (.cons (.str [48]) (.cons (.str [49]) (.cons (.str [48]) .nil)))) .nil),(.int .i64 0)),
  ((.cons (.agg (.cons (.str [48]) (.cons (.str [45,49]) (.cons (.str [48]) .nil)))) .nil),(.int .i64 0)),
  ((.cons (.agg (.cons (.str [48]) (.cons (.str [48]) (.cons (.str [49]) .nil)))) .nil),(.int .i64 0)),
  ((.cons (.agg (.cons (.str [48]) (.cons (.str [48]) (.cons (.str [45,49]) .nil)))) .nil),(.int .i64 0))]
theorem stqranD : ranAll Tryz.prog (ovL stdc1) 98 stqD = true:=by decide +kernel
def stqdD : Dc Tryz.prog:=Dc.memo 98 stqD (ranAll_ok p_mixed p_callable (ovL_ok (stdc1)) (by decide) stqranD) (hasbody rfl rfl)
def stqK : List (AV × AV):=[((.cons (.agg (.cons (.int .i64 1) (.cons (.ro 6 (.cons (.str [49]) (.cons (.str [48]) (.cons (.str [48]) (.cons (.str [45,49]) (.cons (.str [48]) (.cons (.str [48]) (.cons (.str [48]) (.cons (.str [49]) (.cons (.str [48]) (.cons (.str [48]) (.cons (.str [45,49]) (.cons (.str [48]) (.cons (.str [48]) (.cons (.str [48]) (.cons (.str [49]) (.cons (.str [48]) (.cons (.str [48]) (.cons (.str [45,49]) .nil))))))))))))))))))) .nil))) .nil),(.int .i64 0))]
theorem stqranK : ranAll Tryz.prog (ovL (stqdD::stdc1)) 43 stqK = true:=by decide +kernel
def stqdK : Dc Tryz.prog:=Dc.memo 43 stqK (ranAll_ok p_mixed p_callable (ovL_ok (stqdD::stdc1)) (by decide) stqranK) (hasbody rfl rfl)
def stqL : List (AV × AV):=[
  ((.cons (.int .i64 1) .nil),(.ro 1 (.cons (.int .i64 0) .nil))),
  ((.cons (.int .i64 2) .nil),(.ro 1 (.cons (.int .i64 1) .nil))),
  ((.cons (.int .i64 3) .nil),(.ro 2 (.cons (.int .i64 0) (.cons (.int .i64 1) .nil)))),
  ((.cons (.int .i64 4) .nil),(.ro 1 (.cons (.int .i64 2) .nil))),
  ((.cons (.int .i64 5) .nil),(.ro 2 (.cons (.int .i64 0) (.cons (.int .i64 2) .nil)))),
  ((.cons (.int .i64 6) .nil),(.ro 2 (.cons (.int .i64 1) (.cons (.int .i64 2) .nil)))),
  ((.cons (.int .i64 7) .nil),(.ro 3 (.cons (.int .i64 0) (.cons (.int .i64 1) (.cons (.int .i64 2) .nil))))),
  ((.cons (.int .i64 8) .nil),(.ro 1 (.cons (.int .i64 3) .nil))),
  ((.cons (.int .i64 9) .nil),(.ro 2 (.cons (.int .i64 0) (.cons (.int .i64 3) .nil)))),
  ((.cons (.int .i64 10) .nil),(.ro 2 (.cons (.int .i64 1) (.cons (.int .i64 3) .nil)))),
  ((.cons (.int .i64 11) .nil),(.ro 3 (.cons (.int .i64 0) (.cons (.int .i64 1) (.cons (.int .i64 3) .nil))))),
  ((.cons (.int .i64 12) .nil),(.ro 2 (.cons (.int .i64 2) (.cons (.int .i64 3) .nil)))),
  ((.cons (.int .i64 13) .nil),(.ro 3 (.cons (.int .i64 0) (.cons (.int .i64 2) (.cons (.int .i64 3) .nil))))),
  ((.cons (.int .i64 14) .nil),(.ro 3 (.cons (.int .i64 1) (.cons (.int .i64 2) (.cons (.int .i64 3) .nil))))),
  ((.cons (.int .i64 15) .nil),(.ro 4 (.cons (.int .i64 0) (.cons (.int .i64 1) (.cons (.int .i64 2) (.cons (.int .i64 3) .nil)))))),
  ((.cons (.int .i64 31) .nil),(.ro 5 (.cons (.int .i64 0) (.cons (.int .i64 1) (.cons (.int .i64 2) (.cons (.int .i64 3) (.cons (.int .i64 4) .nil))))))),
  ((.cons (.int .i64 63) .nil),(.ro 6 (.cons (.int .i64 0) (.cons (.int .i64 1) (.cons (.int .i64 2) (.cons (.int .i64 3) (.cons (.int .i64 4) (.cons (.int .i64 5) .nil))))))))]
theorem stqranL : ranAll Tryz.prog (ovL stdc1) 35 stqL = true:=by decide +kernel
def stqdL : Dc Tryz.prog:=Dc.memo 35 stqL (ranAll_ok p_mixed p_callable (ovL_ok (stdc1)) (by decide) stqranL) (hasbody rfl rfl)
def stqS : List (AV × AV):=[
  ((.cons (.int .i64 15) .nil),(.int .i64 4)),
  ((.cons (.int .i64 3) .nil),(.int .i64 2)),
  ((.cons (.int .i64 7) .nil),(.int .i64 3))]
theorem stqranS : ranAll Tryz.prog (ovL (stqdL::stdc1)) 45 stqS = true:=by decide +kernel
def stqdS : Dc Tryz.prog:=Dc.memo 45 stqS (ranAll_ok p_mixed p_callable (ovL_ok (stqdL::stdc1)) (by decide) stqranS) (hasbody rfl rfl)
def gO0_0 : List (Dc Tryz.prog):=stqdK::stqdD::stqdL::stqdS::gM0_0
def gO0_1 : List (Dc Tryz.prog):=stqdK::stqdD::stqdL::stqdS::gM0_1
def gO0_2 : List (Dc Tryz.prog):=stqdK::stqdD::stqdL::stqdS::gM0_2
def gO0_3 : List (Dc Tryz.prog):=stqdK::stqdD::stqdL::stqdS::gM0_3
def gO1_0 : List (Dc Tryz.prog):=stqdK::stqdD::stqdL::stqdS::gM1_0
def gO1_1 : List (Dc Tryz.prog):=stqdK::stqdD::stqdL::stqdS::gM1_1
def gO1_2 : List (Dc Tryz.prog):=stqdK::stqdD::stqdL::stqdS::gM1_2
def gO1_3 : List (Dc Tryz.prog):=stqdK::stqdD::stqdL::stqdS::gM1_3
def gO2_0 : List (Dc Tryz.prog):=stqdK::stqdD::stqdL::stqdS::gM2_0
def gO2_1 : List (Dc Tryz.prog):=stqdK::stqdD::stqdL::stqdS::gM2_1
def gO2_2 : List (Dc Tryz.prog):=stqdK::stqdD::stqdL::stqdS::gM2_2
def gO2_3 : List (Dc Tryz.prog):=stqdK::stqdD::stqdL::stqdS::gM2_3
def gO3_0 : List (Dc Tryz.prog):=stqdK::stqdD::stqdL::stqdS::gM3_0
def gO3_1 : List (Dc Tryz.prog):=stqdK::stqdD::stqdL::stqdS::gM3_1
def gO3_2 : List (Dc Tryz.prog):=stqdK::stqdD::stqdL::stqdS::gM3_2
def gO3_3 : List (Dc Tryz.prog):=stqdK::stqdD::stqdL::stqdS::gM3_3
def gO4_0 : List (Dc Tryz.prog):=stqdK::stqdD::stqdL::stqdS::gM4_0
def gO4_1 : List (Dc Tryz.prog):=stqdK::stqdD::stqdL::stqdS::gM4_1
def gO4_2 : List (Dc Tryz.prog):=stqdK::stqdD::stqdL::stqdS::gM4_2
def gO4_3 : List (Dc Tryz.prog):=stqdK::stqdD::stqdL::stqdS::gM4_3
def gO5_0 : List (Dc Tryz.prog):=stqdK::stqdD::stqdL::stqdS::gM5_0
def gO5_1 : List (Dc Tryz.prog):=stqdK::stqdD::stqdL::stqdS::gM5_1
def gO5_2 : List (Dc Tryz.prog):=stqdK::stqdD::stqdL::stqdS::gM5_2
def gO5_3 : List (Dc Tryz.prog):=stqdK::stqdD::stqdL::stqdS::gM5_3
end
end Go.Sy
