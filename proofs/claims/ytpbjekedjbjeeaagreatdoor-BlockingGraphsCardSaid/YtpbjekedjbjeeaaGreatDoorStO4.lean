/- What is known beforehand, level 5. -/
import Derived.Test.YtpbjekedjbjeeaaGreatDoorStMIn0
import Derived.Test.YtpbjekedjbjeeaaGreatDoorStMSt0
namespace Go.Sy
open Go.RowKit Go.Proofs
set_option linter.unusedVariables false
set_option maxRecDepth 1000000
set_option maxHeartbeats 0
noncomputable def stInAll : List (AV × AV) := stIn0 ++ (stIn1 ++ (stIn2 ++ (stIn3)))
theorem stmemIn : ∀ e ∈ stInAll, @PF tb1 Tryz.prog 125 e.1 e.2 ∧ DP e.1 ∧ DP e.2 :=
  ranAll_ok p_mixed p_callable stovA_ok (by decide) (ranAll_app stranIn0 (ranAll_app stranIn1 (ranAll_app stranIn2 stranIn3)))
noncomputable def stdIn : Dc Tryz.prog := Dc.memo 125 stInAll stmemIn (hasbody rfl rfl)
noncomputable def stStAll : List (AV × AV) := stSt0
theorem stmemSt : ∀ e ∈ stStAll, @PF tb1 Tryz.prog 144 e.1 e.2 ∧ DP e.1 ∧ DP e.2 :=
  ranAll_ok p_mixed p_callable stovA_ok (by decide) stranSt0
noncomputable def stdSt : Dc Tryz.prog := Dc.memo 144 stStAll stmemSt (hasbody rfl rfl)
noncomputable def stdc5 : List (Dc Tryz.prog) := stdIn :: stdSt :: stdcA
noncomputable def stov5 : Tgt → AV → Heap → Option CR := ovD (dcTab stdc5)
theorem stov5_ok (B0 : Nat) : OvOK Tryz.prog B0 stov5 := ovD_ok p_callable _ B0
end Go.Sy
