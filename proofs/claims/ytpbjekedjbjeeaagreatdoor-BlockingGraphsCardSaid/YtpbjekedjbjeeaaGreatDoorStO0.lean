/- What is known beforehand, level 1. -/
import Derived.Test.YtpbjekedjbjeeaaGreatDoorStMMo0
import Derived.Test.YtpbjekedjbjeeaaGreatDoorStMRi0
namespace Go.Sy
open Go.RowKit Go.Proofs
set_option linter.unusedVariables false
set_option maxRecDepth 1000000
set_option maxHeartbeats 0
noncomputable def stRdAll : List (AV × AV) := stRd0
theorem stmemRd : ∀ e ∈ stRdAll, @PF tb1 Tryz.prog 158 e.1 e.2 ∧ DP e.1 ∧ DP e.2 :=
  ranAll_ok p_mixed p_callable ov0_ok (by decide) stranRd0
noncomputable def stdRd : Dc Tryz.prog := Dc.memo 158 stRdAll stmemRd (hasbody rfl rfl)
noncomputable def stNuAll : List (AV × AV) := stNu0
theorem stmemNu : ∀ e ∈ stNuAll, @PF tb1 Tryz.prog 33 e.1 e.2 ∧ DP e.1 ∧ DP e.2 :=
  ranAll_ok p_mixed p_callable ov0_ok (by decide) stranNu0
noncomputable def stdNu : Dc Tryz.prog := Dc.memo 33 stNuAll stmemNu (hasbody rfl rfl)
noncomputable def stPrAll : List (AV × AV) := stPr0
theorem stmemPr : ∀ e ∈ stPrAll, @PF tb1 Tryz.prog 161 e.1 e.2 ∧ DP e.1 ∧ DP e.2 :=
  ranAll_ok p_mixed p_callable ov0_ok (by decide) stranPr0
noncomputable def stdPr : Dc Tryz.prog := Dc.memo 161 stPrAll stmemPr (hasbody rfl rfl)
noncomputable def stMoAll : List (AV × AV) := stMo0
theorem stmemMo : ∀ e ∈ stMoAll, @PF tb1 Tryz.prog 70 e.1 e.2 ∧ DP e.1 ∧ DP e.2 :=
  ranAll_ok p_mixed p_callable ov0_ok (by decide) stranMo0
noncomputable def stdMo : Dc Tryz.prog := Dc.memo 70 stMoAll stmemMo (hasbody rfl rfl)
noncomputable def stRiAll : List (AV × AV) := stRi0
theorem stmemRi : ∀ e ∈ stRiAll, @PF tb1 Tryz.prog 160 e.1 e.2 ∧ DP e.1 ∧ DP e.2 :=
  ranAll_ok p_mixed p_callable ov0_ok (by decide) stranRi0
noncomputable def stdRi : Dc Tryz.prog := Dc.memo 160 stRiAll stmemRi (hasbody rfl rfl)
noncomputable def stdc1 : List (Dc Tryz.prog) := stdRd :: stdNu :: stdPr :: stdMo :: stdRi :: dc0
noncomputable def stov1 : Tgt → AV → Heap → Option CR := ovD (dcTab stdc1)
theorem stov1_ok (B0 : Nat) : OvOK Tryz.prog B0 stov1 := ovD_ok p_callable _ B0
end Go.Sy
