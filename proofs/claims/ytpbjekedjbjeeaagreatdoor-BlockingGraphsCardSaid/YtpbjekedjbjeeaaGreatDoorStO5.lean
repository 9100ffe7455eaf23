/- What is known beforehand, level 6. -/
import Derived.Test.YtpbjekedjbjeeaaGreatDoorStMKa0
import Derived.Test.YtpbjekedjbjeeaaGreatDoorStMKb0
import Derived.Test.YtpbjekedjbjeeaaGreatDoorStMKc0
namespace Go.Sy
open Go.RowKit Go.Proofs
set_option linter.unusedVariables false
set_option maxRecDepth 1000000
set_option maxHeartbeats 0
noncomputable def stKaAll : List (AV × AV) := stKa0
theorem stmemKa : ∀ e ∈ stKaAll, @PF tb1 Tryz.prog 46 e.1 e.2 ∧ DP e.1 ∧ DP e.2 :=
  ranAll_ok p_mixed p_callable stov5_ok (by decide) stranKa0
noncomputable def stdKa : Dc Tryz.prog := Dc.memo 46 stKaAll stmemKa (hasbody rfl rfl)
noncomputable def stKbAll : List (AV × AV) := stKb0
theorem stmemKb : ∀ e ∈ stKbAll, @PF tb1 Tryz.prog 21 e.1 e.2 ∧ DP e.1 ∧ DP e.2 :=
  ranAll_ok p_mixed p_callable stov5_ok (by decide) stranKb0
noncomputable def stdKb : Dc Tryz.prog := Dc.memo 21 stKbAll stmemKb (hasbody rfl rfl)
noncomputable def stKcAll : List (AV × AV) := stKc0
theorem stmemKc : ∀ e ∈ stKcAll, @PF tb1 Tryz.prog 8 e.1 e.2 ∧ DP e.1 ∧ DP e.2 :=
  ranAll_ok p_mixed p_callable stov5_ok (by decide) stranKc0
noncomputable def stdKc : Dc Tryz.prog := Dc.memo 8 stKcAll stmemKc (hasbody rfl rfl)
noncomputable def stdc6 : List (Dc Tryz.prog) := stdKa :: stdKb :: stdKc :: stdc5
noncomputable def stov6 : Tgt → AV → Heap → Option CR := ovD (dcTab stdc6)
theorem stov6_ok (B0 : Nat) : OvOK Tryz.prog B0 stov6 := ovD_ok p_callable _ B0
end Go.Sy
