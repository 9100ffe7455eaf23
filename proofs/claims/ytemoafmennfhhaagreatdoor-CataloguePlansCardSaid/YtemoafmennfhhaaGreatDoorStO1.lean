/- What is known beforehand, level 2. -/
import Derived.Test.YtemoafmennfhhaaGreatDoorStMOf0
import Derived.Test.YtemoafmennfhhaaGreatDoorStMOf1
import Derived.Test.YtemoafmennfhhaaGreatDoorStMOf2
import Derived.Test.YtemoafmennfhhaaGreatDoorStMOf3
namespace Go.Sy
open Go.RowKit Go.Proofs
set_option linter.unusedVariables false
set_option maxRecDepth 1000000
set_option maxHeartbeats 0
noncomputable def stOfAll : List (AV × AV):=stOf0++(stOf1++(stOf2++(stOf3++(stOf4++(stOf5++(stOf6++(stOf7++(stOf8++(stOf9++(stOf10++(stOf11++(stOf12++(stOf13++(stOf14++(stOf15++(stOf16++(stOf17++(stOf18++(stOf19++(stOf20++(stOf21++(stOf22++(stOf23++(stOf24++(stOf25++(stOf26++(stOf27++(stOf28++(stOf29++(stOf30++(stOf31++(stOf32++(stOf33++(stOf34++(stOf35++(stOf36++(stOf37++(stOf38++(stOf39++(stOf40++(stOf41++(stOf42++(stOf43++(stOf44++(stOf45++(stOf46++(stOf47++(stOf48++(stOf49++(stOf50++(stOf51++(stOf52++(stOf53++(stOf54++(stOf55++(stOf56++(stOf57++(stOf58++(stOf59++(stOf60++(stOf61++(stOf62++(stOf63)))))))))))))))))))))))))))))))))))))))))))))))))))))))))))))))
theorem stmemOf : ∀ e ∈ stOfAll,@PF tb1 Tryz.prog 265 e.1 e.2∧DP e.1∧DP e.2 :=
  ranAll_ok p_mixed p_callable stov1_ok (by decide) (ranAll_app stranOf0 (ranAll_app stranOf1 (ranAll_app stranOf2 (ranAll_app stranOf3 (ranAll_app stranOf4 (ranAll_app stranOf5 (ranAll_app stranOf6 (ranAll_app stranOf7 (ranAll_app stranOf8 (ranAll_app stranOf9 (ranAll_app stranOf10 (ranAll_app stranOf11 (ranAll_app stranOf12 (ranAll_app stranOf13 (ranAll_app stranOf14 (ranAll_app stranOf15 (ranAll_app stranOf16 (ranAll_app stranOf17 (ranAll_app stranOf18 (ranAll_app stranOf19 (ranAll_app stranOf20 (ranAll_app stranOf21 (ranAll_app stranOf22 (ranAll_app stranOf23 (ranAll_app stranOf24 (ranAll_app stranOf25 (ranAll_app stranOf26 (ranAll_app stranOf27 (ranAll_app stranOf28 (ranAll_app stranOf29 (ranAll_app stranOf30 (ranAll_app stranOf31 (ranAll_app stranOf32 (ranAll_app stranOf33 (ranAll_app stranOf34 (ranAll_app stranOf35 (ranAll_app stranOf36 (ranAll_app stranOf37 (ranAll_app stranOf38 (ranAll_app stranOf39 (ranAll_app stranOf40 (ranAll_app stranOf41 (ranAll_app stranOf42 (ranAll_app stranOf43 (ranAll_app stranOf44 (ranAll_app stranOf45 (ranAll_app stranOf46 (ranAll_app stranOf47 (ranAll_app stranOf48 (ranAll_app stranOf49 (ranAll_app stranOf50 (ranAll_app stranOf51 (ranAll_app stranOf52 (ranAll_app stranOf53 (ranAll_app stranOf54 (ranAll_app stranOf55 (ranAll_app stranOf56 (ranAll_app stranOf57 (ranAll_app stranOf58 (ranAll_app stranOf59 (ranAll_app stranOf60 (ranAll_app stranOf61 (ranAll_app stranOf62 stranOf63)))))))))))))))))))))))))))))))))))))))))))))))))))))))))))))))
noncomputable def stdOf : Dc Tryz.prog:=Dc.memo 265 stOfAll stmemOf (hasbody rfl rfl)
noncomputable def stdc2 : List (Dc Tryz.prog):=stdOf::stdc1
noncomputable def stov2 : Tgt → AV → Heap → Option CR:=ovD (dcTab stdc2)
theorem stov2_ok (B0 : Nat) : OvOK Tryz.prog B0 stov2:=ovD_ok p_callable _ B0
end Go.Sy
