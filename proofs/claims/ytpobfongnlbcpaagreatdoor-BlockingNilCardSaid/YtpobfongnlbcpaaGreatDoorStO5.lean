/- Runs of dowel/meeting.Status. -/
import Derived.Test.YtpobfongnlbcpaaGreatDoorStAx4
import Derived.Test.YtpobfongnlbcpaaGreatDoorStMIn0
namespace Go.Sy
open Go.RowKit Go.Proofs
set_option linter.unusedVariables false
set_option maxRecDepth 1000000
set_option maxHeartbeats 0
noncomputable def stSt0 : List (AV × AV) := [
  ((.cons (bxo 0 0 0 1 1 1) (.cons (bxo 1 0 0 2 1 1) .nil)), (.int .i64 2)),
  ((.cons (bxo 0 0 0 1 1 1) (.cons (bxo 2 0 0 3 1 1) .nil)), (.int .i64 1)),
  ((.cons (bxo 1 0 0 2 1 1) (.cons (bxo 2 0 0 3 1 1) .nil)), (.int .i64 2)),
  ((.cons (bxo 0 0 0 1 1 1) (.cons stv28 .nil)), (.int .i64 3)),
  ((.cons (bxo 0 0 0 1 1 1) (.cons (bxo 3 0 0 4 1 1) .nil)), (.int .i64 1))]
theorem stranSt0 : ranAll Tryz.prog stovA 94 stSt0 = true := by decide +kernel
end Go.Sy
/- What is known beforehand, level 5. -/
namespace Go.Sy
open Go.RowKit Go.Proofs
set_option linter.unusedVariables false
set_option maxRecDepth 1000000
set_option maxHeartbeats 0
noncomputable def stInAll : List (AV × AV) := stIn0 ++ (stIn1 ++ (stIn2 ++ (stIn3)))
theorem stmemIn : ∀ e ∈ stInAll, @PF tb1 Tryz.prog 27 e.1 e.2 ∧ DP e.1 ∧ DP e.2 :=
  ranAll_ok p_mixed p_callable stovA_ok (by decide) (ranAll_app stranIn0 (ranAll_app stranIn1 (ranAll_app stranIn2 stranIn3)))
noncomputable def stdIn : Dc Tryz.prog := Dc.memo 27 stInAll stmemIn (hasbody rfl rfl)
noncomputable def stStAll : List (AV × AV) := stSt0
theorem stmemSt : ∀ e ∈ stStAll, @PF tb1 Tryz.prog 94 e.1 e.2 ∧ DP e.1 ∧ DP e.2 :=
  ranAll_ok p_mixed p_callable stovA_ok (by decide) stranSt0
noncomputable def stdSt : Dc Tryz.prog := Dc.memo 94 stStAll stmemSt (hasbody rfl rfl)
noncomputable def stdc5 : List (Dc Tryz.prog) := stdIn :: stdSt :: stdcA
noncomputable def stov5 : Tgt → AV → Heap → Option CR := ovD (dcTab stdc5)
theorem stov5_ok (B0 : Nat) : OvOK Tryz.prog B0 stov5 := ovD_ok p_callable _ B0
end Go.Sy
/- Runs of dowel/dowellaw15.known. -/
namespace Go.Sy
open Go.RowKit Go.Proofs
set_option linter.unusedVariables false
set_option maxRecDepth 1000000
set_option maxHeartbeats 0
noncomputable def stKa0 : List (AV × AV) := [
  (.nil, (.bool true))]
theorem stranKa0 : ranAll Tryz.prog stov5 83 stKa0 = true := by decide +kernel
end Go.Sy
/- Runs of dowel/dowellaw13.known. -/
namespace Go.Sy
open Go.RowKit Go.Proofs
set_option linter.unusedVariables false
set_option maxRecDepth 1000000
set_option maxHeartbeats 0
noncomputable def stKb0 : List (AV × AV) := [
  (.nil, (.bool true))]
theorem stranKb0 : ranAll Tryz.prog stov5 33 stKb0 = true := by decide +kernel
end Go.Sy
/- Runs of dowel/dowellaw21.known. -/
namespace Go.Sy
open Go.RowKit Go.Proofs
set_option linter.unusedVariables false
set_option maxRecDepth 1000000
set_option maxHeartbeats 0
noncomputable def stKc0 : List (AV × AV) := [
  (.nil, (.bool true))]
theorem stranKc0 : ranAll Tryz.prog stov5 14 stKc0 = true := by decide +kernel
end Go.Sy
/- What is known beforehand, level 6. -/
namespace Go.Sy
open Go.RowKit Go.Proofs
set_option linter.unusedVariables false
set_option maxRecDepth 1000000
set_option maxHeartbeats 0
noncomputable def stKaAll : List (AV × AV) := stKa0
theorem stmemKa : ∀ e ∈ stKaAll, @PF tb1 Tryz.prog 83 e.1 e.2 ∧ DP e.1 ∧ DP e.2 :=
  ranAll_ok p_mixed p_callable stov5_ok (by decide) stranKa0
noncomputable def stdKa : Dc Tryz.prog := Dc.memo 83 stKaAll stmemKa (hasbody rfl rfl)
noncomputable def stKbAll : List (AV × AV) := stKb0
theorem stmemKb : ∀ e ∈ stKbAll, @PF tb1 Tryz.prog 33 e.1 e.2 ∧ DP e.1 ∧ DP e.2 :=
  ranAll_ok p_mixed p_callable stov5_ok (by decide) stranKb0
noncomputable def stdKb : Dc Tryz.prog := Dc.memo 33 stKbAll stmemKb (hasbody rfl rfl)
noncomputable def stKcAll : List (AV × AV) := stKc0
theorem stmemKc : ∀ e ∈ stKcAll, @PF tb1 Tryz.prog 14 e.1 e.2 ∧ DP e.1 ∧ DP e.2 :=
  ranAll_ok p_mixed p_callable stov5_ok (by decide) stranKc0
noncomputable def stdKc : Dc Tryz.prog := Dc.memo 14 stKcAll stmemKc (hasbody rfl rfl)
noncomputable def stdc6 : List (Dc Tryz.prog) := stdKa :: stdKb :: stdKc :: stdc5
noncomputable def stov6 : Tgt → AV → Heap → Option CR := ovD (dcTab stdc6)
theorem stov6_ok (B0 : Nat) : OvOK Tryz.prog B0 stov6 := ovD_ok p_callable _ B0
end Go.Sy
