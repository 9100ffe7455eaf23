/- What is known beforehand, level 1. -/
import Derived.Test.YtemoafmennfhhaaGreatDoorStMMo0
import Derived.Test.YtemoafmennfhhaaGreatDoorStMRi0
import Derived.Test.YtemoafmennfhhaaGreatDoorStMRi1
import Derived.Test.YtemoafmennfhhaaGreatDoorStMRi2
import Derived.Test.YtemoafmennfhhaaGreatDoorStMRi3
namespace Go.Sy
open Go.RowKit Go.Proofs
set_option linter.unusedVariables false
set_option maxRecDepth 1000000
set_option maxHeartbeats 0
noncomputable def stKnAll : List (AV × AV):=stKn0
theorem stmemKn : ∀ e ∈ stKnAll,@PF tb1 Tryz.prog 4 e.1 e.2∧DP e.1∧DP e.2 :=
  ranAll_ok p_mixed p_callable ov0_ok (by decide) stranKn0
noncomputable def stdKn : Dc Tryz.prog:=Dc.memo 4 stKnAll stmemKn (hasbody rfl rfl)
noncomputable def stRdAll : List (AV × AV):=stRd0
theorem stmemRd : ∀ e ∈ stRdAll,@PF tb1 Tryz.prog 160 e.1 e.2∧DP e.1∧DP e.2 :=
  ranAll_ok p_mixed p_callable ov0_ok (by decide) stranRd0
noncomputable def stdRd : Dc Tryz.prog:=Dc.memo 160 stRdAll stmemRd (hasbody rfl rfl)
noncomputable def stNuAll : List (AV × AV):=stNu0++(stNu1++(stNu2++(stNu3++(stNu4))))
theorem stmemNu : ∀ e ∈ stNuAll,@PF tb1 Tryz.prog 178 e.1 e.2∧DP e.1∧DP e.2 :=
  ranAll_ok p_mixed p_callable ov0_ok (by decide) (ranAll_app stranNu0 (ranAll_app stranNu1 (ranAll_app stranNu2 (ranAll_app stranNu3 stranNu4))))
noncomputable def stdNu : Dc Tryz.prog:=Dc.memo 178 stNuAll stmemNu (hasbody rfl rfl)
noncomputable def stPrAll : List (AV × AV):=stPr0++(stPr1++(stPr2++(stPr3++(stPr4++(stPr5++(stPr6++(stPr7++(stPr8++(stPr9++(stPr10++(stPr11++(stPr12++(stPr13++(stPr14++(stPr15++(stPr16++(stPr17++(stPr18++(stPr19++(stPr20))))))))))))))))))))
theorem stmemPr : ∀ e ∈ stPrAll,@PF tb1 Tryz.prog 230 e.1 e.2∧DP e.1∧DP e.2 :=
  ranAll_ok p_mixed p_callable ov0_ok (by decide) (ranAll_app stranPr0 (ranAll_app stranPr1 (ranAll_app stranPr2 (ranAll_app stranPr3 (ranAll_app stranPr4 (ranAll_app stranPr5 (ranAll_app stranPr6 (ranAll_app stranPr7 (ranAll_app stranPr8 (ranAll_app stranPr9 (ranAll_app stranPr10 (ranAll_app stranPr11 (ranAll_app stranPr12 (ranAll_app stranPr13 (ranAll_app stranPr14 (ranAll_app stranPr15 (ranAll_app stranPr16 (ranAll_app stranPr17 (ranAll_app stranPr18 (ranAll_app stranPr19 stranPr20))))))))))))))))))))
noncomputable def stdPr : Dc Tryz.prog:=Dc.memo 230 stPrAll stmemPr (hasbody rfl rfl)
noncomputable def stMoAll : List (AV × AV):=stMo0
theorem stmemMo : ∀ e ∈ stMoAll,@PF tb1 Tryz.prog 209 e.1 e.2∧DP e.1∧DP e.2 :=
  ranAll_ok p_mixed p_callable ov0_ok (by decide) stranMo0
noncomputable def stdMo : Dc Tryz.prog:=Dc.memo 209 stMoAll stmemMo (hasbody rfl rfl)
noncomputable def stRiAll : List (AV × AV):=stRi0++(stRi1++(stRi2++(stRi3++(stRi4++(stRi5++(stRi6++(stRi7++(stRi8++(stRi9++(stRi10++(stRi11++(stRi12++(stRi13++(stRi14++(stRi15++(stRi16++(stRi17++(stRi18++(stRi19++(stRi20++(stRi21++(stRi22++(stRi23++(stRi24++(stRi25++(stRi26++(stRi27++(stRi28++(stRi29++(stRi30++(stRi31++(stRi32++(stRi33++(stRi34++(stRi35++(stRi36++(stRi37++(stRi38++(stRi39++(stRi40++(stRi41++(stRi42++(stRi43++(stRi44++(stRi45++(stRi46++(stRi47++(stRi48++(stRi49++(stRi50++(stRi51++(stRi52++(stRi53++(stRi54++(stRi55++(stRi56++(stRi57++(stRi58++(stRi59++(stRi60++(stRi61++(stRi62++(stRi63)))))))))))))))))))))))))))))))))))))))))))))))))))))))))))))))
theorem stmemRi : ∀ e ∈ stRiAll,@PF tb1 Tryz.prog 318 e.1 e.2∧DP e.1∧DP e.2 :=
  ranAll_ok p_mixed p_callable ov0_ok (by decide) (ranAll_app stranRi0 (ranAll_app stranRi1 (ranAll_app stranRi2 (ranAll_app stranRi3 (ranAll_app stranRi4 (ranAll_app stranRi5 (ranAll_app stranRi6 (ranAll_app stranRi7 (ranAll_app stranRi8 (ranAll_app stranRi9 (ranAll_app stranRi10 (ranAll_app stranRi11 (ranAll_app stranRi12 (ranAll_app stranRi13 (ranAll_app stranRi14 (ranAll_app stranRi15 (ranAll_app stranRi16 (ranAll_app stranRi17 (ranAll_app stranRi18 (ranAll_app stranRi19 (ranAll_app stranRi20 (ranAll_app stranRi21 (ranAll_app stranRi22 (ranAll_app stranRi23 (ranAll_app stranRi24 (ranAll_app stranRi25 (ranAll_app stranRi26 (ranAll_app stranRi27 (ranAll_app stranRi28 (ranAll_app stranRi29 (ranAll_app stranRi30 (ranAll_app stranRi31 (ranAll_app stranRi32 (ranAll_app stranRi33 (ranAll_app stranRi34 (ranAll_app stranRi35 (ranAll_app stranRi36 (ranAll_app stranRi37 (ranAll_app stranRi38 (ranAll_app stranRi39 (ranAll_app stranRi40 (ranAll_app stranRi41 (ranAll_app stranRi42 (ranAll_app stranRi43 (ranAll_app stranRi44 (ranAll_app stranRi45 (ranAll_app stranRi46 (ranAll_app stranRi47 (ranAll_app stranRi48 (ranAll_app stranRi49 (ranAll_app stranRi50 (ranAll_app stranRi51 (ranAll_app stranRi52 (ranAll_app stranRi53 (ranAll_app stranRi54 (ranAll_app stranRi55 (ranAll_app stranRi56 (ranAll_app stranRi57 (ranAll_app stranRi58 (ranAll_app stranRi59 (ranAll_app stranRi60 (ranAll_app stranRi61 (ranAll_app stranRi62 stranRi63)))))))))))))))))))))))))))))))))))))))))))))))))))))))))))))))
noncomputable def stdRi : Dc Tryz.prog:=Dc.memo 318 stRiAll stmemRi (hasbody rfl rfl)
noncomputable def stdc1 : List (Dc Tryz.prog):=stdKn::stdRd::stdNu::stdPr::stdMo::stdRi::dc0
noncomputable def stov1 : Tgt → AV → Heap → Option CR:=ovD (dcTab stdc1)
theorem stov1_ok (B0 : Nat) : OvOK Tryz.prog B0 stov1:=ovD_ok p_callable _ B0
end Go.Sy
