/- What is known beforehand, level 2. -/
import Derived.Test.YtpbjekedjbjeeaaGreatDoorStMOf0
namespace Go.Sy
open Go.RowKit Go.Proofs
set_option linter.unusedVariables false
set_option maxRecDepth 1000000
set_option maxHeartbeats 0
noncomputable def stOfAll : List (AV × AV) := stOf0
theorem stmemOf : ∀ e ∈ stOfAll, @PF tb1 Tryz.prog 115 e.1 e.2 ∧ DP e.1 ∧ DP e.2 :=
  ranAll_ok p_mixed p_callable stov1_ok (by decide) stranOf0
noncomputable def stdOf : Dc Tryz.prog := Dc.memo 115 stOfAll stmemOf (hasbody rfl rfl)
noncomputable def stdc2 : List (Dc Tryz.prog) := stdOf :: stdc1
noncomputable def stov2 : Tgt → AV → Heap → Option CR := ovD (dcTab stdc2)
theorem stov2_ok (B0 : Nat) : OvOK Tryz.prog B0 stov2 := ovD_ok p_callable _ B0
end Go.Sy
