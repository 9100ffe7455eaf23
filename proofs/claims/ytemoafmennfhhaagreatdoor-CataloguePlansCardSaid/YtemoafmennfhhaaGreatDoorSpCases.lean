/- CataloguePlans: for whatever three bytes the law returns true. -/
import Derived.Test.YtemoafmennfhhaaGreatDoorSpK0
import Derived.Test.YtemoafmennfhhaaGreatDoorSpK1
import Derived.Test.YtemoafmennfhhaaGreatDoorSpK2
import Derived.Test.YtemoafmennfhhaaGreatDoorSpK3
import Derived.Test.YtemoafmennfhhaaGreatDoorSpK4
import Derived.Test.YtemoafmennfhhaaGreatDoorSpK5
import Derived.Test.YtemoafmennfhhaaGreatDoorSpK6
namespace Go.Sy
open Go.Proofs Go.RowKit
set_option linter.unusedVariables false
theorem told_all {a b c : Int} (ha : 0 ≤ a∧a ≤ 255) (hb : 0 ≤ b∧b ≤ 255) (hc : 0 ≤ c∧c ≤ 255) {W : World} (ht : TabOK W Tabs.l) : Told W a b c:=by
  obtain ha1 | ha1 | ha1 | ha1 | ha1 | ha1 : a % 6 = 0 ∨ a % 6 = 1 ∨ a % 6 = 2 ∨ a % 6 = 3 ∨ a % 6 = 4 ∨ a % 6 = 5:=by omega
  · obtain hb1 | hb1 | hb1 | hb1 | hb1 : b % 5 = 0 ∨ b % 5 = 1 ∨ b % 5 = 2 ∨ b % 5 = 3 ∨ b % 5 = 4:=by omega
    · obtain hc1 | hc1 | hc1 | hc1 : c % 4 = 0 ∨ c % 4 = 1 ∨ c % 4 = 2 ∨ c % 4 = 3:=by omega
      · exact told_of run_1_0_0 (in_cls ha.1 ha.2 (by decide) (by decide) ha1) (in_cls hb.1 hb.2 (by decide) (by decide) hb1) (in_cls hc.1 hc.2 (by decide) (by decide) hc1) ht
      · exact told_of run_1_0_1 (in_cls ha.1 ha.2 (by decide) (by decide) ha1) (in_cls hb.1 hb.2 (by decide) (by decide) hb1) (in_cls hc.1 hc.2 (by decide) (by decide) hc1) ht
      · exact told_of run_1_0_2 (in_cls ha.1 ha.2 (by decide) (by decide) ha1) (in_cls hb.1 hb.2 (by decide) (by decide) hb1) (in_cls hc.1 hc.2 (by decide) (by decide) hc1) ht
      · exact told_of run_1_0_3 (in_cls ha.1 ha.2 (by decide) (by decide) ha1) (in_cls hb.1 hb.2 (by decide) (by decide) hb1) (in_cls hc.1 hc.2 (by decide) (by decide) hc1) ht
    · obtain hc1 | hc1 | hc1 | hc1 : c % 4 = 0 ∨ c % 4 = 1 ∨ c % 4 = 2 ∨ c % 4 = 3:=by omega
      · exact told_of run_1_1_0 (in_cls ha.1 ha.2 (by decide) (by decide) ha1) (in_cls hb.1 hb.2 (by decide) (by decide) hb1) (in_cls hc.1 hc.2 (by decide) (by decide) hc1) ht
      · exact told_of run_1_1_1 (in_cls ha.1 ha.2 (by decide) (by decide) ha1) (in_cls hb.1 hb.2 (by decide) (by decide) hb1) (in_cls hc.1 hc.2 (by decide) (by decide) hc1) ht
      · exact told_of run_1_1_2 (in_cls ha.1 ha.2 (by decide) (by decide) ha1) (in_cls hb.1 hb.2 (by decide) (by decide) hb1) (in_cls hc.1 hc.2 (by decide) (by decide) hc1) ht
      · exact told_of run_1_1_3 (in_cls ha.1 ha.2 (by decide) (by decide) ha1) (in_cls hb.1 hb.2 (by decide) (by decide) hb1) (in_cls hc.1 hc.2 (by decide) (by decide) hc1) ht
    · obtain hc1 | hc1 | hc1 | hc1 : c % 4 = 0 ∨ c % 4 = 1 ∨ c % 4 = 2 ∨ c % 4 = 3:=by omega
      · exact told_of run_1_2_0 (in_cls ha.1 ha.2 (by decide) (by decide) ha1) (in_cls hb.1 hb.2 (by decide) (by decide) hb1) (in_cls hc.1 hc.2 (by decide) (by decide) hc1) ht
      · exact told_of run_1_2_1 (in_cls ha.1 ha.2 (by decide) (by decide) ha1) (in_cls hb.1 hb.2 (by decide) (by decide) hb1) (in_cls hc.1 hc.2 (by decide) (by decide) hc1) ht
      · exact told_of run_1_2_2 (in_cls ha.1 ha.2 (by decide) (by decide) ha1) (in_cls hb.1 hb.2 (by decide) (by decide) hb1) (in_cls hc.1 hc.2 (by decide) (by decide) hc1) ht
      · exact told_of run_1_2_3 (in_cls ha.1 ha.2 (by decide) (by decide) ha1) (in_cls hb.1 hb.2 (by decide) (by decide) hb1) (in_cls hc.1 hc.2 (by decide) (by decide) hc1) ht
    · obtain hc1 | hc1 | hc1 | hc1 : c % 4 = 0 ∨ c % 4 = 1 ∨ c % 4 = 2 ∨ c % 4 = 3:=by omega
      · exact told_of run_1_3_0 (in_cls ha.1 ha.2 (by decide) (by decide) ha1) (in_cls hb.1 hb.2 (by decide) (by decide) hb1) (in_cls hc.1 hc.2 (by decide) (by decide) hc1) ht
      · exact told_of run_1_3_1 (in_cls ha.1 ha.2 (by decide) (by decide) ha1) (in_cls hb.1 hb.2 (by decide) (by decide) hb1) (in_cls hc.1 hc.2 (by decide) (by decide) hc1) ht
      · exact told_of run_1_3_2 (in_cls ha.1 ha.2 (by decide) (by decide) ha1) (in_cls hb.1 hb.2 (by decide) (by decide) hb1) (in_cls hc.1 hc.2 (by decide) (by decide) hc1) ht
      · exact told_of run_1_3_3 (in_cls ha.1 ha.2 (by decide) (by decide) ha1) (in_cls hb.1 hb.2 (by decide) (by decide) hb1) (in_cls hc.1 hc.2 (by decide) (by decide) hc1) ht
    · obtain hc1 | hc1 | hc1 | hc1 : c % 4 = 0 ∨ c % 4 = 1 ∨ c % 4 = 2 ∨ c % 4 = 3:=by omega
      · exact told_of run_1_4_0 (in_cls ha.1 ha.2 (by decide) (by decide) ha1) (in_cls hb.1 hb.2 (by decide) (by decide) hb1) (in_cls hc.1 hc.2 (by decide) (by decide) hc1) ht
      · exact told_of run_1_4_1 (in_cls ha.1 ha.2 (by decide) (by decide) ha1) (in_cls hb.1 hb.2 (by decide) (by decide) hb1) (in_cls hc.1 hc.2 (by decide) (by decide) hc1) ht
      · exact told_of run_1_4_2 (in_cls ha.1 ha.2 (by decide) (by decide) ha1) (in_cls hb.1 hb.2 (by decide) (by decide) hb1) (in_cls hc.1 hc.2 (by decide) (by decide) hc1) ht
      · exact told_of run_1_4_3 (in_cls ha.1 ha.2 (by decide) (by decide) ha1) (in_cls hb.1 hb.2 (by decide) (by decide) hb1) (in_cls hc.1 hc.2 (by decide) (by decide) hc1) ht
  · obtain hb1 | hb1 | hb1 : b % 3 = 0 ∨ b % 3 = 1 ∨ b % 3 = 2:=by omega
    · obtain hc1 | hc1 | hc1 | hc1 : c % 4 = 0 ∨ c % 4 = 1 ∨ c % 4 = 2 ∨ c % 4 = 3:=by omega
      · exact told_of run_2_0_0 (in_cls ha.1 ha.2 (by decide) (by decide) ha1) (in_cls hb.1 hb.2 (by decide) (by decide) hb1) (in_cls hc.1 hc.2 (by decide) (by decide) hc1) ht
      · exact told_of run_2_0_1 (in_cls ha.1 ha.2 (by decide) (by decide) ha1) (in_cls hb.1 hb.2 (by decide) (by decide) hb1) (in_cls hc.1 hc.2 (by decide) (by decide) hc1) ht
      · exact told_of run_2_0_2 (in_cls ha.1 ha.2 (by decide) (by decide) ha1) (in_cls hb.1 hb.2 (by decide) (by decide) hb1) (in_cls hc.1 hc.2 (by decide) (by decide) hc1) ht
      · exact told_of run_2_0_3 (in_cls ha.1 ha.2 (by decide) (by decide) ha1) (in_cls hb.1 hb.2 (by decide) (by decide) hb1) (in_cls hc.1 hc.2 (by decide) (by decide) hc1) ht
    · obtain hc1 | hc1 | hc1 | hc1 : c % 4 = 0 ∨ c % 4 = 1 ∨ c % 4 = 2 ∨ c % 4 = 3:=by omega
      · exact told_of run_2_1_0 (in_cls ha.1 ha.2 (by decide) (by decide) ha1) (in_cls hb.1 hb.2 (by decide) (by decide) hb1) (in_cls hc.1 hc.2 (by decide) (by decide) hc1) ht
      · exact told_of run_2_1_1 (in_cls ha.1 ha.2 (by decide) (by decide) ha1) (in_cls hb.1 hb.2 (by decide) (by decide) hb1) (in_cls hc.1 hc.2 (by decide) (by decide) hc1) ht
      · exact told_of run_2_1_2 (in_cls ha.1 ha.2 (by decide) (by decide) ha1) (in_cls hb.1 hb.2 (by decide) (by decide) hb1) (in_cls hc.1 hc.2 (by decide) (by decide) hc1) ht
      · exact told_of run_2_1_3 (in_cls ha.1 ha.2 (by decide) (by decide) ha1) (in_cls hb.1 hb.2 (by decide) (by decide) hb1) (in_cls hc.1 hc.2 (by decide) (by decide) hc1) ht
    · obtain hc1 | hc1 | hc1 | hc1 : c % 4 = 0 ∨ c % 4 = 1 ∨ c % 4 = 2 ∨ c % 4 = 3:=by omega
      · exact told_of run_2_2_0 (in_cls ha.1 ha.2 (by decide) (by decide) ha1) (in_cls hb.1 hb.2 (by decide) (by decide) hb1) (in_cls hc.1 hc.2 (by decide) (by decide) hc1) ht
      · exact told_of run_2_2_1 (in_cls ha.1 ha.2 (by decide) (by decide) ha1) (in_cls hb.1 hb.2 (by decide) (by decide) hb1) (in_cls hc.1 hc.2 (by decide) (by decide) hc1) ht
      · exact told_of run_2_2_2 (in_cls ha.1 ha.2 (by decide) (by decide) ha1) (in_cls hb.1 hb.2 (by decide) (by decide) hb1) (in_cls hc.1 hc.2 (by decide) (by decide) hc1) ht
      · exact told_of run_2_2_3 (in_cls ha.1 ha.2 (by decide) (by decide) ha1) (in_cls hb.1 hb.2 (by decide) (by decide) hb1) (in_cls hc.1 hc.2 (by decide) (by decide) hc1) ht
  · obtain hb1 | hb1 | hb1 : b % 3 = 0 ∨ b % 3 = 1 ∨ b % 3 = 2:=by omega
    · obtain hc1 | hc1 | hc1 | hc1 : c % 4 = 0 ∨ c % 4 = 1 ∨ c % 4 = 2 ∨ c % 4 = 3:=by omega
      · exact told_of run_3_0_0 (in_cls ha.1 ha.2 (by decide) (by decide) ha1) (in_cls hb.1 hb.2 (by decide) (by decide) hb1) (in_cls hc.1 hc.2 (by decide) (by decide) hc1) ht
      · exact told_of run_3_0_1 (in_cls ha.1 ha.2 (by decide) (by decide) ha1) (in_cls hb.1 hb.2 (by decide) (by decide) hb1) (in_cls hc.1 hc.2 (by decide) (by decide) hc1) ht
      · exact told_of run_3_0_2 (in_cls ha.1 ha.2 (by decide) (by decide) ha1) (in_cls hb.1 hb.2 (by decide) (by decide) hb1) (in_cls hc.1 hc.2 (by decide) (by decide) hc1) ht
      · exact told_of run_3_0_3 (in_cls ha.1 ha.2 (by decide) (by decide) ha1) (in_cls hb.1 hb.2 (by decide) (by decide) hb1) (in_cls hc.1 hc.2 (by decide) (by decide) hc1) ht
    · obtain hc1 | hc1 | hc1 | hc1 : c % 4 = 0 ∨ c % 4 = 1 ∨ c % 4 = 2 ∨ c % 4 = 3:=by omega
      · exact told_of run_3_1_0 (in_cls ha.1 ha.2 (by decide) (by decide) ha1) (in_cls hb.1 hb.2 (by decide) (by decide) hb1) (in_cls hc.1 hc.2 (by decide) (by decide) hc1) ht
      · exact told_of run_3_1_1 (in_cls ha.1 ha.2 (by decide) (by decide) ha1) (in_cls hb.1 hb.2 (by decide) (by decide) hb1) (in_cls hc.1 hc.2 (by decide) (by decide) hc1) ht
      · exact told_of run_3_1_2 (in_cls ha.1 ha.2 (by decide) (by decide) ha1) (in_cls hb.1 hb.2 (by decide) (by decide) hb1) (in_cls hc.1 hc.2 (by decide) (by decide) hc1) ht
      · exact told_of run_3_1_3 (in_cls ha.1 ha.2 (by decide) (by decide) ha1) (in_cls hb.1 hb.2 (by decide) (by decide) hb1) (in_cls hc.1 hc.2 (by decide) (by decide) hc1) ht
    · obtain hc1 | hc1 | hc1 | hc1 : c % 4 = 0 ∨ c % 4 = 1 ∨ c % 4 = 2 ∨ c % 4 = 3:=by omega
      · exact told_of run_3_2_0 (in_cls ha.1 ha.2 (by decide) (by decide) ha1) (in_cls hb.1 hb.2 (by decide) (by decide) hb1) (in_cls hc.1 hc.2 (by decide) (by decide) hc1) ht
      · exact told_of run_3_2_1 (in_cls ha.1 ha.2 (by decide) (by decide) ha1) (in_cls hb.1 hb.2 (by decide) (by decide) hb1) (in_cls hc.1 hc.2 (by decide) (by decide) hc1) ht
      · exact told_of run_3_2_2 (in_cls ha.1 ha.2 (by decide) (by decide) ha1) (in_cls hb.1 hb.2 (by decide) (by decide) hb1) (in_cls hc.1 hc.2 (by decide) (by decide) hc1) ht
      · exact told_of run_3_2_3 (in_cls ha.1 ha.2 (by decide) (by decide) ha1) (in_cls hb.1 hb.2 (by decide) (by decide) hb1) (in_cls hc.1 hc.2 (by decide) (by decide) hc1) ht
  · obtain hb1 | hb1 | hb1 : b % 3 = 0 ∨ b % 3 = 1 ∨ b % 3 = 2:=by omega
    · obtain hc1 | hc1 | hc1 | hc1 : c % 4 = 0 ∨ c % 4 = 1 ∨ c % 4 = 2 ∨ c % 4 = 3:=by omega
      · exact told_of run_4_0_0 (in_cls ha.1 ha.2 (by decide) (by decide) ha1) (in_cls hb.1 hb.2 (by decide) (by decide) hb1) (in_cls hc.1 hc.2 (by decide) (by decide) hc1) ht
      · exact told_of run_4_0_1 (in_cls ha.1 ha.2 (by decide) (by decide) ha1) (in_cls hb.1 hb.2 (by decide) (by decide) hb1) (in_cls hc.1 hc.2 (by decide) (by decide) hc1) ht
      · exact told_of run_4_0_2 (in_cls ha.1 ha.2 (by decide) (by decide) ha1) (in_cls hb.1 hb.2 (by decide) (by decide) hb1) (in_cls hc.1 hc.2 (by decide) (by decide) hc1) ht
      · exact told_of run_4_0_3 (in_cls ha.1 ha.2 (by decide) (by decide) ha1) (in_cls hb.1 hb.2 (by decide) (by decide) hb1) (in_cls hc.1 hc.2 (by decide) (by decide) hc1) ht
    · obtain hc1 | hc1 | hc1 | hc1 : c % 4 = 0 ∨ c % 4 = 1 ∨ c % 4 = 2 ∨ c % 4 = 3:=by omega
      · exact told_of run_4_1_0 (in_cls ha.1 ha.2 (by decide) (by decide) ha1) (in_cls hb.1 hb.2 (by decide) (by decide) hb1) (in_cls hc.1 hc.2 (by decide) (by decide) hc1) ht
      · exact told_of run_4_1_1 (in_cls ha.1 ha.2 (by decide) (by decide) ha1) (in_cls hb.1 hb.2 (by decide) (by decide) hb1) (in_cls hc.1 hc.2 (by decide) (by decide) hc1) ht
      · exact told_of run_4_1_2 (in_cls ha.1 ha.2 (by decide) (by decide) ha1) (in_cls hb.1 hb.2 (by decide) (by decide) hb1) (in_cls hc.1 hc.2 (by decide) (by decide) hc1) ht
      · exact told_of run_4_1_3 (in_cls ha.1 ha.2 (by decide) (by decide) ha1) (in_cls hb.1 hb.2 (by decide) (by decide) hb1) (in_cls hc.1 hc.2 (by decide) (by decide) hc1) ht
    · obtain hc1 | hc1 | hc1 | hc1 : c % 4 = 0 ∨ c % 4 = 1 ∨ c % 4 = 2 ∨ c % 4 = 3:=by omega
      · exact told_of run_4_2_0 (in_cls ha.1 ha.2 (by decide) (by decide) ha1) (in_cls hb.1 hb.2 (by decide) (by decide) hb1) (in_cls hc.1 hc.2 (by decide) (by decide) hc1) ht
      · exact told_of run_4_2_1 (in_cls ha.1 ha.2 (by decide) (by decide) ha1) (in_cls hb.1 hb.2 (by decide) (by decide) hb1) (in_cls hc.1 hc.2 (by decide) (by decide) hc1) ht
      · exact told_of run_4_2_2 (in_cls ha.1 ha.2 (by decide) (by decide) ha1) (in_cls hb.1 hb.2 (by decide) (by decide) hb1) (in_cls hc.1 hc.2 (by decide) (by decide) hc1) ht
      · exact told_of run_4_2_3 (in_cls ha.1 ha.2 (by decide) (by decide) ha1) (in_cls hb.1 hb.2 (by decide) (by decide) hb1) (in_cls hc.1 hc.2 (by decide) (by decide) hc1) ht
  · obtain hb1 | hb1 | hb1 : b % 3 = 0 ∨ b % 3 = 1 ∨ b % 3 = 2:=by omega
    · obtain hc1 | hc1 | hc1 | hc1 : c % 4 = 0 ∨ c % 4 = 1 ∨ c % 4 = 2 ∨ c % 4 = 3:=by omega
      · exact told_of run_5_0_0 (in_cls ha.1 ha.2 (by decide) (by decide) ha1) (in_cls hb.1 hb.2 (by decide) (by decide) hb1) (in_cls hc.1 hc.2 (by decide) (by decide) hc1) ht
      · exact told_of run_5_0_1 (in_cls ha.1 ha.2 (by decide) (by decide) ha1) (in_cls hb.1 hb.2 (by decide) (by decide) hb1) (in_cls hc.1 hc.2 (by decide) (by decide) hc1) ht
      · exact told_of run_5_0_2 (in_cls ha.1 ha.2 (by decide) (by decide) ha1) (in_cls hb.1 hb.2 (by decide) (by decide) hb1) (in_cls hc.1 hc.2 (by decide) (by decide) hc1) ht
      · exact told_of run_5_0_3 (in_cls ha.1 ha.2 (by decide) (by decide) ha1) (in_cls hb.1 hb.2 (by decide) (by decide) hb1) (in_cls hc.1 hc.2 (by decide) (by decide) hc1) ht
    · obtain hc1 | hc1 | hc1 | hc1 : c % 4 = 0 ∨ c % 4 = 1 ∨ c % 4 = 2 ∨ c % 4 = 3:=by omega
      · exact told_of run_5_1_0 (in_cls ha.1 ha.2 (by decide) (by decide) ha1) (in_cls hb.1 hb.2 (by decide) (by decide) hb1) (in_cls hc.1 hc.2 (by decide) (by decide) hc1) ht
      · exact told_of run_5_1_1 (in_cls ha.1 ha.2 (by decide) (by decide) ha1) (in_cls hb.1 hb.2 (by decide) (by decide) hb1) (in_cls hc.1 hc.2 (by decide) (by decide) hc1) ht
      · exact told_of run_5_1_2 (in_cls ha.1 ha.2 (by decide) (by decide) ha1) (in_cls hb.1 hb.2 (by decide) (by decide) hb1) (in_cls hc.1 hc.2 (by decide) (by decide) hc1) ht
      · exact told_of run_5_1_3 (in_cls ha.1 ha.2 (by decide) (by decide) ha1) (in_cls hb.1 hb.2 (by decide) (by decide) hb1) (in_cls hc.1 hc.2 (by decide) (by decide) hc1) ht
    · obtain hc1 | hc1 | hc1 | hc1 : c % 4 = 0 ∨ c % 4 = 1 ∨ c % 4 = 2 ∨ c % 4 = 3:=by omega
      · exact told_of run_5_2_0 (in_cls ha.1 ha.2 (by decide) (by decide) ha1) (in_cls hb.1 hb.2 (by decide) (by decide) hb1) (in_cls hc.1 hc.2 (by decide) (by decide) hc1) ht
      · exact told_of run_5_2_1 (in_cls ha.1 ha.2 (by decide) (by decide) ha1) (in_cls hb.1 hb.2 (by decide) (by decide) hb1) (in_cls hc.1 hc.2 (by decide) (by decide) hc1) ht
      · exact told_of run_5_2_2 (in_cls ha.1 ha.2 (by decide) (by decide) ha1) (in_cls hb.1 hb.2 (by decide) (by decide) hb1) (in_cls hc.1 hc.2 (by decide) (by decide) hc1) ht
      · exact told_of run_5_2_3 (in_cls ha.1 ha.2 (by decide) (by decide) ha1) (in_cls hb.1 hb.2 (by decide) (by decide) hb1) (in_cls hc.1 hc.2 (by decide) (by decide) hc1) ht
  · obtain hb1 | hb1 | hb1 | hb1 : b % 4 = 0 ∨ b % 4 = 1 ∨ b % 4 = 2 ∨ b % 4 = 3:=by omega
    · obtain hc1 | hc1 | hc1 | hc1 : c % 4 = 0 ∨ c % 4 = 1 ∨ c % 4 = 2 ∨ c % 4 = 3:=by omega
      · exact told_of run_6_0_0 (in_cls ha.1 ha.2 (by decide) (by decide) ha1) (in_cls hb.1 hb.2 (by decide) (by decide) hb1) (in_cls hc.1 hc.2 (by decide) (by decide) hc1) ht
      · exact told_of run_6_0_1 (in_cls ha.1 ha.2 (by decide) (by decide) ha1) (in_cls hb.1 hb.2 (by decide) (by decide) hb1) (in_cls hc.1 hc.2 (by decide) (by decide) hc1) ht
      · exact told_of run_6_0_2 (in_cls ha.1 ha.2 (by decide) (by decide) ha1) (in_cls hb.1 hb.2 (by decide) (by decide) hb1) (in_cls hc.1 hc.2 (by decide) (by decide) hc1) ht
      · exact told_of run_6_0_3 (in_cls ha.1 ha.2 (by decide) (by decide) ha1) (in_cls hb.1 hb.2 (by decide) (by decide) hb1) (in_cls hc.1 hc.2 (by decide) (by decide) hc1) ht
    · obtain hc1 | hc1 | hc1 | hc1 : c % 4 = 0 ∨ c % 4 = 1 ∨ c % 4 = 2 ∨ c % 4 = 3:=by omega
      · exact told_of run_6_1_0 (in_cls ha.1 ha.2 (by decide) (by decide) ha1) (in_cls hb.1 hb.2 (by decide) (by decide) hb1) (in_cls hc.1 hc.2 (by decide) (by decide) hc1) ht
      · exact told_of run_6_1_1 (in_cls ha.1 ha.2 (by decide) (by decide) ha1) (in_cls hb.1 hb.2 (by decide) (by decide) hb1) (in_cls hc.1 hc.2 (by decide) (by decide) hc1) ht
      · exact told_of run_6_1_2 (in_cls ha.1 ha.2 (by decide) (by decide) ha1) (in_cls hb.1 hb.2 (by decide) (by decide) hb1) (in_cls hc.1 hc.2 (by decide) (by decide) hc1) ht
      · exact told_of run_6_1_3 (in_cls ha.1 ha.2 (by decide) (by decide) ha1) (in_cls hb.1 hb.2 (by decide) (by decide) hb1) (in_cls hc.1 hc.2 (by decide) (by decide) hc1) ht
    · obtain hc1 | hc1 | hc1 | hc1 : c % 4 = 0 ∨ c % 4 = 1 ∨ c % 4 = 2 ∨ c % 4 = 3:=by omega
      · exact told_of run_6_2_0 (in_cls ha.1 ha.2 (by decide) (by decide) ha1) (in_cls hb.1 hb.2 (by decide) (by decide) hb1) (in_cls hc.1 hc.2 (by decide) (by decide) hc1) ht
      · exact told_of run_6_2_1 (in_cls ha.1 ha.2 (by decide) (by decide) ha1) (in_cls hb.1 hb.2 (by decide) (by decide) hb1) (in_cls hc.1 hc.2 (by decide) (by decide) hc1) ht
      · exact told_of run_6_2_2 (in_cls ha.1 ha.2 (by decide) (by decide) ha1) (in_cls hb.1 hb.2 (by decide) (by decide) hb1) (in_cls hc.1 hc.2 (by decide) (by decide) hc1) ht
      · exact told_of run_6_2_3 (in_cls ha.1 ha.2 (by decide) (by decide) ha1) (in_cls hb.1 hb.2 (by decide) (by decide) hb1) (in_cls hc.1 hc.2 (by decide) (by decide) hc1) ht
    · obtain hc1 | hc1 | hc1 | hc1 : c % 4 = 0 ∨ c % 4 = 1 ∨ c % 4 = 2 ∨ c % 4 = 3:=by omega
      · exact told_of run_6_3_0 (in_cls ha.1 ha.2 (by decide) (by decide) ha1) (in_cls hb.1 hb.2 (by decide) (by decide) hb1) (in_cls hc.1 hc.2 (by decide) (by decide) hc1) ht
      · exact told_of run_6_3_1 (in_cls ha.1 ha.2 (by decide) (by decide) ha1) (in_cls hb.1 hb.2 (by decide) (by decide) hb1) (in_cls hc.1 hc.2 (by decide) (by decide) hc1) ht
      · exact told_of run_6_3_2 (in_cls ha.1 ha.2 (by decide) (by decide) ha1) (in_cls hb.1 hb.2 (by decide) (by decide) hb1) (in_cls hc.1 hc.2 (by decide) (by decide) hc1) ht
      · exact told_of run_6_3_3 (in_cls ha.1 ha.2 (by decide) (by decide) ha1) (in_cls hb.1 hb.2 (by decide) (by decide) hb1) (in_cls hc.1 hc.2 (by decide) (by decide) hc1) ht
end Go.Sy
