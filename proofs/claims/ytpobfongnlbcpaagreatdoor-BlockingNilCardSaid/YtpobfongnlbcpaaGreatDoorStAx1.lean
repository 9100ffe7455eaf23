/- Values. -/
import Derived.Test.YtpobfongnlbcpaaGreatDoorStBase
import Derived.Test.YtpobfongnlbcpaaGreatDoorSyBox
import Derived.Test.YtpobfongnlbcpaaGreatDoorSyZ
namespace Go.Sy
open Go.RowKit Go.Proofs
set_option linter.unusedVariables false
set_option maxRecDepth 1000000
set_option maxHeartbeats 0
noncomputable section
def stv0 : AV := (.tup (.cons (.agg (qz [-1, 0, 0] .nil)) (.cons (.int .i64 0) .nil)))
def stv1 : AV := (.tup (.cons (.agg (qz [0, 0, -1] .nil)) (.cons (.int .i64 0) .nil)))
def stv2 : AV := (.tup (.cons (.agg (qz [0, -1, 0] .nil)) (.cons (.int .i64 0) .nil)))
def stv3 : AV := (.tup (.cons (.agg (qz [0, 0, 1] .nil)) (.cons (.int .i64 0) .nil)))
def stv4 : AV := (.tup (.cons (.agg (qz [0, 1, 0] .nil)) (.cons (.int .i64 0) .nil)))
def stv5 : AV := (.tup (.cons (.agg (qz [1, 0, 0] .nil)) (.cons (.int .i64 0) .nil)))
def stv6 : AV := (.tup (.cons (.agg (qz [0] .nil)) (.cons (.int .i64 0) .nil)))
def stv7 : AV := (.tup (.cons (.agg (qz [1] .nil)) (.cons (.int .i64 0) .nil)))
def stv8 : AV := (.tup (.cons (.agg (qz [2] .nil)) (.cons (.int .i64 0) .nil)))
def stv9 : AV := (.agg (iz .i64 [1, 0, 0, 0] (.cons (.str [48]) (.cons (.str [48]) (.cons (.str [48]) .nil)))))
def stv10 : AV := (.agg (qz [1, 0, 0, 0, 1, 0, 0, 0, 1, 0, 0, 0] .nil))
def stv11 : AV := (.agg (iz .i64 [1, 0, 0, 0] (.cons (.str [49]) (.cons (.str [48]) (.cons (.str [48]) .nil)))))
def stv12 : AV := (.agg (qz [1, 0, 0, 0, 1, 0, 0, 0, 1, 1, 0, 0] .nil))
def stv13 : AV := (.agg (iz .i64 [1, 0, 0, 0] (.cons (.str [50]) (.cons (.str [48]) (.cons (.str [48]) .nil)))))
def stv14 : AV := (.agg (qz [1, 0, 0, 0, 1, 0, 0, 0, 1, 2, 0, 0] .nil))
def stv15 : AV := (.tup (.cons (.agg (qz [0, 0, 0] .nil)) (.cons (.int .i64 19) .nil)))
def stv16 : AV := (.tup (.cons (.agg (qd [(0, 1)] .nil)) (.cons (.agg (qd [(2, 1)] .nil)) (.cons (.bool true) (.cons (.int .i64 0) .nil)))))
def stv17 : AV := (.tup (.cons (.agg (qd [(1, 1)] .nil)) (.cons (.agg (qd [(3, 1)] .nil)) (.cons (.bool true) (.cons (.int .i64 0) .nil)))))
def stv18 : AV := (.tup (.cons (.agg (qd [(-2, 1)] .nil)) (.cons (.agg (qd [(0, 1)] .nil)) (.cons (.bool true) (.cons (.int .i64 0) .nil)))))
def stv19 : AV := (.tup (.cons (.agg (qd [(-3, 1)] .nil)) (.cons (.agg (qd [(-1, 1)] .nil)) (.cons (.bool true) (.cons (.int .i64 0) .nil)))))
def stv20 : AV := (.tup (.cons (.agg (qd [(2, 1)] .nil)) (.cons (.agg (qd [(4, 1)] .nil)) (.cons (.bool true) (.cons (.int .i64 0) .nil)))))
def stv21 : AV := (.tup (.cons (.agg (qz [4] .nil)) (.cons (.int .i64 0) .nil)))
def stv22 : AV := (.tup (.cons (.agg (qd [(1, 2)] .nil)) (.cons (.int .i64 0) .nil)))
def stv23 : AV := (.agg (iz .i64 [1, 0, 0, 0] (.cons (.str [49, 47, 50]) (.cons (.str [48]) (.cons (.str [48]) .nil)))))
def stv24 : AV := (.agg (qd [(1, 0), (0, 0), (0, 0), (0, 0), (1, 0), (0, 0), (0, 0), (0, 0), (1, 0), (1, 2), (0, 0), (0, 0)] .nil))
def stv25 : AV := (.ro 12 (iz .i64 [0, 1, 0, 2, 0, 2, 0, 1, 0, 4, 1, 2, 1, 3, 0, 3, 1, 5, 2, 3, 2, 3, 0, 4, 2, 6, 1, 4, 3, 7, 3, 4, 4, 5, 2, 5, 4, 6, 1, 5, 5, 7, 3, 5, 6, 7, 4, 5] .nil))
def stv26 : AV := (.ro 6 (qd [(-1, 0), (0, 0), (0, 0), (-1, 2)] (.cons (.ro 4 (iz .i64 [0, 1, 3, 2] .nil)) (qz [0, 0, -1, 0] (.cons (.ro 4 (iz .i64 [0, 2, 6, 4] .nil)) (qz [0, -1, 0, 0] (.cons (.ro 4 (iz .i64 [0, 4, 5, 1] .nil)) (qz [0, 0, 1, 1] (.cons (.ro 4 (iz .i64 [1, 5, 7, 3] .nil)) (qz [0, 1, 0, 1] (.cons (.ro 4 (iz .i64 [2, 3, 7, 6] .nil)) (qd [(1, 0), (0, 0), (0, 0), (3, 2)] (.cons (.ro 4 (iz .i64 [4, 6, 7, 5] .nil)) .nil)))))))))))))
def stv27 : AV := (.ro 8 (qd [(1, 2), (0, 0), (0, 0), (1, 2), (0, 0), (1, 0), (1, 2), (1, 0), (0, 0), (1, 2), (1, 0), (1, 0), (3, 2), (0, 0), (0, 0), (3, 2), (0, 0), (1, 0), (3, 2), (1, 0), (0, 0), (3, 2), (1, 0), (1, 0)] .nil))
def stv28 : AV := (.agg (.cons stv27 (.cons stv26 (.cons stv25 .nil))))
def stv29 : AV := (.agg (qd [(0, 1), (0, 0), (1, 0)] .nil))
def stv30 : AV := (.agg (qd [(0, 1), (1, 0), (0, 0)] .nil))
def stv31 : AV := (.agg (qd [(1, 1), (0, 0), (0, 0)] .nil))
def stv32 : AV := (.tup (.cons (.agg (qz [3] .nil)) (.cons (.int .i64 0) .nil)))
def stv33 : AV := (.agg (iz .i64 [1, 0, 0, 0] (.cons (.str [51]) (.cons (.str [48]) (.cons (.str [48]) .nil)))))
def stv34 : AV := (.agg (qz [1, 0, 0, 0, 1, 0, 0, 0, 1, 3, 0, 0] .nil))
def stv35 : AV := (.agg (qd [(1, 2), (1, 2), (1, 2)] .nil))
def stv36 : AV := (.agg (qd [(7, 2), (1, 2), (1, 2)] .nil))
end
end Go.Sy
/- Runs of dowel/rational.read. -/
namespace Go.Sy
open Go.RowKit Go.Proofs
set_option linter.unusedVariables false
set_option maxRecDepth 1000000
set_option maxHeartbeats 0
noncomputable def stRd0 : List (AV × AV) := [
  ((.cons (.str [48]) (.cons (.int .i64 400) .nil)), stv6),
  ((.cons (.str [49]) (.cons (.int .i64 400) .nil)), stv7),
  ((.cons (.str [50]) (.cons (.int .i64 400) .nil)), stv8),
  ((.cons (.str [50]) (.cons (.int .i64 65536) .nil)), stv8),
  ((.cons (.str [52]) (.cons (.int .i64 65536) .nil)), stv21),
  ((.cons (.str [49, 47, 50]) (.cons (.int .i64 400) .nil)), stv22),
  ((.cons (.str [51]) (.cons (.int .i64 400) .nil)), stv32)]
theorem stranRd0 : ranAll Tryz.prog ov0 69 stRd0 = true := by decide +kernel
end Go.Sy
/- Runs of (dowel/rational.Rat).Number. -/
namespace Go.Sy
open Go.RowKit Go.Proofs
set_option linter.unusedVariables false
set_option maxRecDepth 1000000
set_option maxHeartbeats 0
noncomputable def stNu0 : List (AV × AV) := [
  ((.cons (.agg (qz [0] .nil)) .nil), (.str [48])),
  ((.cons (.agg (qz [1] .nil)) .nil), (.str [49])),
  ((.cons (.agg (qz [2] .nil)) .nil), (.str [50])),
  ((.cons (.agg (qz [-1] .nil)) .nil), (.str [45, 49])),
  ((.cons (.agg (qd [(1, 1)] .nil)) .nil), (.str [49])),
  ((.cons (.agg (qd [(2, 1)] .nil)) .nil), (.str [50])),
  ((.cons (.agg (qd [(4, 1)] .nil)) .nil), (.str [52])),
  ((.cons (.agg (qd [(3, 1)] .nil)) .nil), (.str [51])),
  ((.cons (.agg (qd [(1, 2)] .nil)) .nil), (.str [49, 47, 50]))]
theorem stranNu0 : ranAll Tryz.prog ov0 58 stNu0 = true := by decide +kernel
end Go.Sy
/- Runs of dowel/vector.Primitive. -/
namespace Go.Sy
open Go.RowKit Go.Proofs
set_option linter.unusedVariables false
set_option maxRecDepth 1000000
set_option maxHeartbeats 0
noncomputable def stPr0 : List (AV × AV) := [
  ((.cons (.agg (qz [-1, 0, 0] .nil)) .nil), stv0),
  ((.cons (.agg (qz [0, 0, -1] .nil)) .nil), stv1),
  ((.cons (.agg (qz [0, -1, 0] .nil)) .nil), stv2),
  ((.cons (.agg (qz [0, 0, 1] .nil)) .nil), stv3),
  ((.cons (.agg (qz [0, 1, 0] .nil)) .nil), stv4),
  ((.cons (.agg (qz [1, 0, 0] .nil)) .nil), stv5),
  ((.cons (.agg (qz [0, 0, 0] .nil)) .nil), stv15),
  ((.cons stv29 .nil), stv3),
  ((.cons stv30 .nil), stv4),
  ((.cons stv31 .nil), stv5)]
theorem stranPr0 : ranAll Tryz.prog ov0 22 stPr0 = true := by decide +kernel
end Go.Sy
/- Runs of dowel/motion.Of. -/
namespace Go.Sy
open Go.RowKit Go.Proofs
set_option linter.unusedVariables false
set_option maxRecDepth 1000000
set_option maxHeartbeats 0
noncomputable def stMo0 : List (AV × AV) := [
  ((.cons stv9 .nil), (.tup (.cons stv10 (.cons (.int .i64 0) .nil)))),
  ((.cons stv11 .nil), (.tup (.cons stv12 (.cons (.int .i64 0) .nil)))),
  ((.cons stv13 .nil), (.tup (.cons stv14 (.cons (.int .i64 0) .nil)))),
  ((.cons stv23 .nil), (.tup (.cons stv24 (.cons (.int .i64 0) .nil)))),
  ((.cons stv33 .nil), (.tup (.cons stv34 (.cons (.int .i64 0) .nil))))]
theorem stranMo0 : ranAll Tryz.prog ov0 137 stMo0 = true := by decide +kernel
end Go.Sy
/- Runs of dowel/cell.rings. -/
namespace Go.Sy
open Go.RowKit Go.Proofs
set_option linter.unusedVariables false
set_option maxRecDepth 1000000
set_option maxHeartbeats 0
noncomputable def stRi0 : List (AV × AV) := [
  ((.cons (bxI 0 0 0 1 1 1) .nil), (bxR 0 0 0 1 1 1)),
  ((.cons (bxI 3 0 0 4 1 1) .nil), (bxR 3 0 0 4 1 1))]
theorem stranRi0 : ranAll Tryz.prog ov0 250 stRi0 = true := by decide +kernel
end Go.Sy
/- What is known beforehand, level 1. -/
namespace Go.Sy
open Go.RowKit Go.Proofs
set_option linter.unusedVariables false
set_option maxRecDepth 1000000
set_option maxHeartbeats 0
noncomputable def stRdAll : List (AV × AV) := stRd0
theorem stmemRd : ∀ e ∈ stRdAll, @PF tb1 Tryz.prog 69 e.1 e.2 ∧ DP e.1 ∧ DP e.2 :=
  ranAll_ok p_mixed p_callable ov0_ok (by decide) stranRd0
noncomputable def stdRd : Dc Tryz.prog := Dc.memo 69 stRdAll stmemRd (hasbody rfl rfl)
noncomputable def stNuAll : List (AV × AV) := stNu0
theorem stmemNu : ∀ e ∈ stNuAll, @PF tb1 Tryz.prog 58 e.1 e.2 ∧ DP e.1 ∧ DP e.2 :=
  ranAll_ok p_mixed p_callable ov0_ok (by decide) stranNu0
noncomputable def stdNu : Dc Tryz.prog := Dc.memo 58 stNuAll stmemNu (hasbody rfl rfl)
noncomputable def stPrAll : List (AV × AV) := stPr0
theorem stmemPr : ∀ e ∈ stPrAll, @PF tb1 Tryz.prog 22 e.1 e.2 ∧ DP e.1 ∧ DP e.2 :=
  ranAll_ok p_mixed p_callable ov0_ok (by decide) stranPr0
noncomputable def stdPr : Dc Tryz.prog := Dc.memo 22 stPrAll stmemPr (hasbody rfl rfl)
noncomputable def stMoAll : List (AV × AV) := stMo0
theorem stmemMo : ∀ e ∈ stMoAll, @PF tb1 Tryz.prog 137 e.1 e.2 ∧ DP e.1 ∧ DP e.2 :=
  ranAll_ok p_mixed p_callable ov0_ok (by decide) stranMo0
noncomputable def stdMo : Dc Tryz.prog := Dc.memo 137 stMoAll stmemMo (hasbody rfl rfl)
noncomputable def stRiAll : List (AV × AV) := stRi0
theorem stmemRi : ∀ e ∈ stRiAll, @PF tb1 Tryz.prog 250 e.1 e.2 ∧ DP e.1 ∧ DP e.2 :=
  ranAll_ok p_mixed p_callable ov0_ok (by decide) stranRi0
noncomputable def stdRi : Dc Tryz.prog := Dc.memo 250 stRiAll stmemRi (hasbody rfl rfl)
noncomputable def stdc1 : List (Dc Tryz.prog) := stdRd :: stdNu :: stdPr :: stdMo :: stdRi :: dc0
noncomputable def stov1 : Tgt → AV → Heap → Option CR := ovD (dcTab stdc1)
theorem stov1_ok (B0 : Nat) : OvOK Tryz.prog B0 stov1 := ovD_ok p_callable _ B0
end Go.Sy
/- Runs of dowel/cell.Of. -/
namespace Go.Sy
open Go.RowKit Go.Proofs
set_option linter.unusedVariables false
set_option maxRecDepth 1000000
set_option maxHeartbeats 0
noncomputable def stOf0 : List (AV × AV) := [
  ((.cons (.agg (.cons (bxI 0 0 0 1 1 1) .nil)) .nil), (.tup (.cons (bxo 0 0 0 1 1 1) (.cons (.int .i64 0) .nil)))),
  ((.cons (.agg (.cons (bxI 3 0 0 4 1 1) .nil)) .nil), (.tup (.cons (bxo 3 0 0 4 1 1) (.cons (.int .i64 0) .nil))))]
theorem stranOf0 : ranAll Tryz.prog stov1 199 stOf0 = true := by decide +kernel
end Go.Sy
/- What is known beforehand, level 2. -/
namespace Go.Sy
open Go.RowKit Go.Proofs
set_option linter.unusedVariables false
set_option maxRecDepth 1000000
set_option maxHeartbeats 0
noncomputable def stOfAll : List (AV × AV) := stOf0
theorem stmemOf : ∀ e ∈ stOfAll, @PF tb1 Tryz.prog 199 e.1 e.2 ∧ DP e.1 ∧ DP e.2 :=
  ranAll_ok p_mixed p_callable stov1_ok (by decide) stranOf0
noncomputable def stdOf : Dc Tryz.prog := Dc.memo 199 stOfAll stmemOf (hasbody rfl rfl)
noncomputable def stdc2 : List (Dc Tryz.prog) := stdOf :: stdc1
noncomputable def stov2 : Tgt → AV → Heap → Option CR := ovD (dcTab stdc2)
theorem stov2_ok (B0 : Nat) : OvOK Tryz.prog B0 stov2 := ovD_ok p_callable _ B0
end Go.Sy
/- Runs of dowel/cell.Directions. -/
namespace Go.Sy
open Go.RowKit Go.Proofs
set_option linter.unusedVariables false
set_option maxRecDepth 1000000
set_option maxHeartbeats 0
noncomputable def stDi0 : List (AV × AV) := [
  ((.cons (bxo 1 0 0 2 1 1) .nil), (.ro 3 (qz [0, 0, 1, 0, 1, 0, 1, 0, 0] .nil))),
  ((.cons (bxo 0 0 0 1 1 1) .nil), (.ro 3 (qz [0, 0, 1, 0, 1, 0, 1, 0, 0] .nil))),
  ((.cons (bxo 2 0 0 3 1 1) .nil), (.ro 3 (qz [0, 0, 1, 0, 1, 0, 1, 0, 0] .nil))),
  ((.cons (bxo 3 0 0 4 1 1) .nil), (.ro 3 (qz [0, 0, 1, 0, 1, 0, 1, 0, 0] .nil))),
  ((.cons stv28 .nil), (.ro 3 (qz [0, 0, 1, 0, 1, 0, 1, 0, 0] .nil)))]
theorem stranDi0 : ranAll Tryz.prog stov2 122 stDi0 = true := by decide +kernel
end Go.Sy
/- Runs of dowel/cell.Volume. -/
namespace Go.Sy
open Go.RowKit Go.Proofs
set_option linter.unusedVariables false
set_option maxRecDepth 1000000
set_option maxHeartbeats 0
noncomputable def stVo0 : List (AV × AV) := [
  ((.cons (bxo 0 0 0 1 1 1) .nil), (.agg (qd [(1, 1)] .nil))),
  ((.cons (bxo 3 0 0 4 1 1) .nil), (.agg (qd [(1, 1)] .nil)))]
theorem stranVo0 : ranAll Tryz.prog stov2 262 stVo0 = true := by decide +kernel
end Go.Sy
/- Runs of dowel/cell.Place. -/
namespace Go.Sy
open Go.RowKit Go.Proofs
set_option linter.unusedVariables false
set_option maxRecDepth 1000000
set_option maxHeartbeats 0
noncomputable def stPl0 : List (AV × AV) := [
  ((.cons (bxo 0 0 0 1 1 1) (.cons stv10 .nil)), (bxo 0 0 0 1 1 1)),
  ((.cons (bxo 0 0 0 1 1 1) (.cons stv12 .nil)), (bxo 1 0 0 2 1 1)),
  ((.cons (bxo 0 0 0 1 1 1) (.cons stv14 .nil)), (bxo 2 0 0 3 1 1)),
  ((.cons (bxo 3 0 0 4 1 1) (.cons stv10 .nil)), (bxo 3 0 0 4 1 1)),
  ((.cons (bxo 0 0 0 1 1 1) (.cons stv24 .nil)), stv28),
  ((.cons (bxo 0 0 0 1 1 1) (.cons stv34 .nil)), (bxo 3 0 0 4 1 1))]
theorem stranPl0 : ranAll Tryz.prog stov2 86 stPl0 = true := by decide +kernel
end Go.Sy
/- Runs of dowel/cell.Centre. -/
namespace Go.Sy
open Go.RowKit Go.Proofs
set_option linter.unusedVariables false
set_option maxRecDepth 1000000
set_option maxHeartbeats 0
noncomputable def stCe0 : List (AV × AV) := [
  ((.cons (bxo 0 0 0 1 1 1) .nil), stv35),
  ((.cons (bxo 3 0 0 4 1 1) .nil), stv36)]
theorem stranCe0 : ranAll Tryz.prog stov2 261 stCe0 = true := by decide +kernel
end Go.Sy
/- What is known beforehand, level 3. -/
namespace Go.Sy
open Go.RowKit Go.Proofs
set_option linter.unusedVariables false
set_option maxRecDepth 1000000
set_option maxHeartbeats 0
noncomputable def stDiAll : List (AV × AV) := stDi0
theorem stmemDi : ∀ e ∈ stDiAll, @PF tb1 Tryz.prog 122 e.1 e.2 ∧ DP e.1 ∧ DP e.2 :=
  ranAll_ok p_mixed p_callable stov2_ok (by decide) stranDi0
noncomputable def stdDi : Dc Tryz.prog := Dc.memo 122 stDiAll stmemDi (hasbody rfl rfl)
noncomputable def stVoAll : List (AV × AV) := stVo0
theorem stmemVo : ∀ e ∈ stVoAll, @PF tb1 Tryz.prog 262 e.1 e.2 ∧ DP e.1 ∧ DP e.2 :=
  ranAll_ok p_mixed p_callable stov2_ok (by decide) stranVo0
noncomputable def stdVo : Dc Tryz.prog := Dc.memo 262 stVoAll stmemVo (hasbody rfl rfl)
noncomputable def stPlAll : List (AV × AV) := stPl0
theorem stmemPl : ∀ e ∈ stPlAll, @PF tb1 Tryz.prog 86 e.1 e.2 ∧ DP e.1 ∧ DP e.2 :=
  ranAll_ok p_mixed p_callable stov2_ok (by decide) stranPl0
noncomputable def stdPl : Dc Tryz.prog := Dc.memo 86 stPlAll stmemPl (hasbody rfl rfl)
noncomputable def stCeAll : List (AV × AV) := stCe0
theorem stmemCe : ∀ e ∈ stCeAll, @PF tb1 Tryz.prog 261 e.1 e.2 ∧ DP e.1 ∧ DP e.2 :=
  ranAll_ok p_mixed p_callable stov2_ok (by decide) stranCe0
noncomputable def stdCe : Dc Tryz.prog := Dc.memo 261 stCeAll stmemCe (hasbody rfl rfl)
noncomputable def stdc3 : List (Dc Tryz.prog) := stdDi :: stdVo :: stdPl :: stdCe :: stdc2
noncomputable def stov3 : Tgt → AV → Heap → Option CR := ovD (dcTab stdc3)
theorem stov3_ok (B0 : Nat) : OvOK Tryz.prog B0 stov3 := ovD_ok p_callable _ B0
end Go.Sy
/- meeting.Axes: its pieces. -/
namespace Go.Sy
open Go.RowKit Go.Proofs
set_option linter.unusedVariables false
set_option maxRecDepth 1000000
set_option maxHeartbeats 0
noncomputable def axFn : Func := Tryz.f61
noncomputable def axC : Code := axFn.body.getD .skip
noncomputable def axCx (call : Tgt → AV → Heap → CR) : Cx := ⟨Tryz.prog, 61, axFn.ntmps, none, call, 1000⟩
/-- The six axes of boxes, as the map holds them. -/
noncomputable def axK (x y z : List Nat) : AV := .agg (.cons (.str x) (.cons (.str y) (.cons (.str z) .nil)))
noncomputable def axV (x y z : Int) : AV := .agg (qz [x, y, z] .nil)
noncomputable def axEs : List (AV × AV) := [(axK [45, 49] [48] [48], axV (-1) 0 0), (axK [49] [48] [48], axV 1 0 0), (axK [48] [48] [45, 49], axV 0 0 (-1)), (axK [48] [48] [49], axV 0 0 1), (axK [48] [45, 49] [48], axV 0 (-1) 0), (axK [48] [49] [48], axV 0 1 0)]
noncomputable def axOut : AV := .ro 6 (qz [-1, 0, 0, 0, -1, 0, 0, 0, -1, 0, 0, 1, 0, 1, 0, 1, 0, 0] .nil)
noncomputable def nthSeq (k : Nat) (c : Code) : Code := match dropSeq k c with | .seq a _ => a | c => c
/-- The state ahead of the range over the map. -/
noncomputable def axR : Tr AV := (Tr.leaf.set (.ptr (pathOf 67) 0) (pathOf 5)).set .nils (pathOf 14)
noncomputable def axH (n : Pos) : Heap := ⟨(Tr.leaf.set (.cells (Tr.leaf.set (.map (pathOf 66)) (pathOf 0)) 1 false) (pathOf 67)).set (.mp axEs) (pathOf 66), n⟩
/-- Which entries came last: thirty classes. -/
noncomputable def axCls (n : Pos) (h : Heap) : Nat := match h.t.get n with | some (.mi _ _ (j :: k :: _)) => Nat.add (Nat.mul 5 j) (match Nat.ble (Nat.succ j) k with | true => Nat.pred k | false => k) | _ => 30
noncomputable def axLeaf (call : Tgt → AV → Heap → CR) (n : Pos) (i : Nat) (x : R) : Bool :=
  R.casesOn (motive := fun _ => Bool) x false (fun r m h => Bool.casesOn (motive := fun _ => Bool) (Nat.beq (axCls n h) i) true (kFin Tryz.prog axFn axOut (xCode (dropSeq 8 axC) (axCx call) r m h))) (fun _ _ _ _ => false) (fun _ _ _ => false)
noncomputable def axRng (n : Pos) (x : R) : Bool := R.casesOn (motive := fun _ => Bool) x false (fun r m h => Nat.ble (axCls n h) 29) (fun _ _ _ _ => false) (fun _ _ _ => false)
noncomputable def axFull (call : Tgt → AV → Heap → CR) (x : R) : Bool := R.casesOn (motive := fun _ => Bool) x false (fun r m h => kFin Tryz.prog axFn axOut (xCode (dropSeq 8 axC) (axCx call) r m h)) (fun _ _ _ _ => false) (fun _ _ _ => false)
noncomputable def axPre (ov : Tgt → AV → Heap → Option CR) (xs : AV) : Option St := oB (argsR xs 0 axFn.ntmps .leaf) fun r => xPre 7 axC (axCx (callO Tryz.prog ov 1000 30)) r [] (startWith Tabs.l 64)
theorem axC_ok : axFn.body = some axC := rfl
end Go.Sy
/- meeting.Axes: the comparison of the six axes; every order of the map's entries. -/
namespace Go.Sy
open Go.RowKit Go.Proofs
set_option linter.unusedVariables false
set_option maxRecDepth 1000000
set_option maxHeartbeats 0
noncomputable section
/-- The next name ahead of the range. -/
def axN : Pos := pathOf 512
def axI : List (Int × Int × Int) := [(-1, 0, 0), (1, 0, 0), (0, 0, -1), (0, 0, 1), (0, -1, 0), (0, 1, 0)]
def sgn3 (a b : Int) (k : Int) : Int := match ilt a b with | true => -1 | false => (match ilt b a with | true => 1 | false => k)
def cmp3 (a b : Int × Int × Int) : Int := sgn3 a.1 b.1 (sgn3 a.2.1 b.2.1 (sgn3 a.2.2 b.2.2 0))
def axCmpT : List (AV × AV) := axI.flatMap fun a => axI.map fun b => (.cons (axV a.1 a.2.1 a.2.2) (.cons (axV b.1 b.2.1 b.2.2) .nil), .int .i64 (cmp3 a b))
end
theorem axCmp_ran : ranAll Tryz.prog ov0 124 axCmpT = true := by decide +kernel
noncomputable def d_axCmp : Dc Tryz.prog := Dc.memo 124 axCmpT (ranAll_ok p_mixed p_callable ov0_ok (by decide) axCmp_ran) (hasbody rfl rfl)
noncomputable def axOv : Tgt → AV → Heap → Option CR := ovD (dcTab (d_axCmp :: dc0))
theorem axOv_ok (B0 : Nat) : OvOK Tryz.prog B0 axOv := ovD_ok p_callable _ B0
noncomputable def axCall : Tgt → AV → Heap → CR := callO Tryz.prog axOv 1000 30
theorem axCall_ok (B0 : Nat) : CallOK Tryz.prog B0 axCall := callO_sound p_mixed p_callable (axOv_ok B0) 1000 30
end Go.Sy
