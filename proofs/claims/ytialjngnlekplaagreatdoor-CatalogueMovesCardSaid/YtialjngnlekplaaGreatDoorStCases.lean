/- CatalogueMoves: for whatever three bytes the law returns true. -/
import Derived.Test.YtialjngnlekplaaGreatDoorStK1
import Derived.Test.YtialjngnlekplaaGreatDoorStK3
import Derived.Test.YtialjngnlekplaaGreatDoorStK5
import Derived.Test.YtialjngnlekplaaGreatDoorStK7
namespace Go.Sy
open Go.Proofs Go.RowKit
set_option linter.unusedVariables false
theorem t_of {l : List (Dc Tryz.prog)} {C : Cst} {m1 r1 m2 r2 m3 r3 : Int} (hA : chkA l C (.rng .u8 m1 r1) (.rng .u8 m2 r2) (.rng .u8 m3 r3) = true) (hB : chkB l C = true) {a b c : Int} (ha : 0 ≤ a ∧ a ≤ 255) (hb : 0 ≤ b ∧ b ≤ 255) (hc : 0 ≤ c ∧ c ≤ 255) {W : World} (ht : TabOK W Tabs.l)
    (h1 : a % m1 = r1 + m1) (h2 : b % m2 = r2 + m2) (h3 : c % m3 = r3 + m3) (d1 : r1 < 0 := by decide) (e1 : 0 ≤ m1 := by decide) (d2 : r2 < 0 := by decide) (e2 : 0 ≤ m2 := by decide) (d3 : r3 < 0 := by decide) (e3 : 0 ≤ m3 := by decide) : Told W a b c :=
  told_of hA hB (in_cls ha.1 ha.2 d1 e1 h1) (in_cls hb.1 hb.2 d2 e2 h2) (in_cls hc.1 hc.2 d3 e3 h3) ht
theorem told_all {a b c : Int} (ha : 0 ≤ a ∧ a ≤ 255) (hb : 0 ≤ b ∧ b ≤ 255) (hc : 0 ≤ c ∧ c ≤ 255) {W : World} (ht : TabOK W Tabs.l) : Told W a b c := by
  obtain ha1 | ha1 | ha1 | ha1 | ha1 | ha1 : a % 6 = 0 ∨ a % 6 = 1 ∨ a % 6 = 2 ∨ a % 6 = 3 ∨ a % 6 = 4 ∨ a % 6 = 5 := by omega
  · obtain hb1 | hb1 | hb1 | hb1 | hb1 : b % 5 = 0 ∨ b % 5 = 1 ∨ b % 5 = 2 ∨ b % 5 = 3 ∨ b % 5 = 4 := by omega
    · obtain hc1 | hc1 | hc1 | hc1 : c % 4 = 0 ∨ c % 4 = 1 ∨ c % 4 = 2 ∨ c % 4 = 3 := by omega
      · exact t_of ra_1_0_0 rb_1_0_0 ha hb hc ht ha1 hb1 hc1
      · exact t_of ra_1_0_1 rb_1_0_1 ha hb hc ht ha1 hb1 hc1
      · exact t_of ra_1_0_2 rb_1_0_2 ha hb hc ht ha1 hb1 hc1
      · exact t_of ra_1_0_3 rb_1_0_3 ha hb hc ht ha1 hb1 hc1
    · obtain hc1 | hc1 | hc1 | hc1 : c % 4 = 0 ∨ c % 4 = 1 ∨ c % 4 = 2 ∨ c % 4 = 3 := by omega
      · exact t_of ra_1_1_0 rb_1_1_0 ha hb hc ht ha1 hb1 hc1
      · exact t_of ra_1_1_1 rb_1_1_1 ha hb hc ht ha1 hb1 hc1
      · exact t_of ra_1_1_2 rb_1_1_2 ha hb hc ht ha1 hb1 hc1
      · exact t_of ra_1_1_3 rb_1_1_3 ha hb hc ht ha1 hb1 hc1
    · obtain hc1 | hc1 | hc1 | hc1 : c % 4 = 0 ∨ c % 4 = 1 ∨ c % 4 = 2 ∨ c % 4 = 3 := by omega
      · exact t_of ra_1_2_0 rb_1_2_0 ha hb hc ht ha1 hb1 hc1
      · exact t_of ra_1_2_1 rb_1_2_1 ha hb hc ht ha1 hb1 hc1
      · exact t_of ra_1_2_2 rb_1_2_2 ha hb hc ht ha1 hb1 hc1
      · exact t_of ra_1_2_3 rb_1_2_3 ha hb hc ht ha1 hb1 hc1
    · obtain hc1 | hc1 | hc1 | hc1 : c % 4 = 0 ∨ c % 4 = 1 ∨ c % 4 = 2 ∨ c % 4 = 3 := by omega
      · exact t_of ra_1_3_0 rb_1_3_0 ha hb hc ht ha1 hb1 hc1
      · exact t_of ra_1_3_1 rb_1_3_1 ha hb hc ht ha1 hb1 hc1
      · exact t_of ra_1_3_2 rb_1_3_2 ha hb hc ht ha1 hb1 hc1
      · exact t_of ra_1_3_3 rb_1_3_3 ha hb hc ht ha1 hb1 hc1
    · obtain hc1 | hc1 | hc1 | hc1 : c % 4 = 0 ∨ c % 4 = 1 ∨ c % 4 = 2 ∨ c % 4 = 3 := by omega
      · exact t_of ra_1_4_0 rb_1_4_0 ha hb hc ht ha1 hb1 hc1
      · exact t_of ra_1_4_1 rb_1_4_1 ha hb hc ht ha1 hb1 hc1
      · exact t_of ra_1_4_2 rb_1_4_2 ha hb hc ht ha1 hb1 hc1
      · exact t_of ra_1_4_3 rb_1_4_3 ha hb hc ht ha1 hb1 hc1
  · obtain hb1 | hb1 | hb1 : b % 3 = 0 ∨ b % 3 = 1 ∨ b % 3 = 2 := by omega
    · obtain hc1 | hc1 | hc1 | hc1 : c % 4 = 0 ∨ c % 4 = 1 ∨ c % 4 = 2 ∨ c % 4 = 3 := by omega
      · exact t_of ra_2_0_0 rb_2_0_0 ha hb hc ht ha1 hb1 hc1
      · exact t_of ra_2_0_1 rb_2_0_1 ha hb hc ht ha1 hb1 hc1
      · exact t_of ra_2_0_2 rb_2_0_2 ha hb hc ht ha1 hb1 hc1
      · exact t_of ra_2_0_3 rb_2_0_3 ha hb hc ht ha1 hb1 hc1
    · obtain hc1 | hc1 | hc1 | hc1 : c % 4 = 0 ∨ c % 4 = 1 ∨ c % 4 = 2 ∨ c % 4 = 3 := by omega
      · exact t_of ra_2_1_0 rb_2_1_0 ha hb hc ht ha1 hb1 hc1
      · exact t_of ra_2_1_1 rb_2_1_1 ha hb hc ht ha1 hb1 hc1
      · exact t_of ra_2_1_2 rb_2_1_2 ha hb hc ht ha1 hb1 hc1
      · exact t_of ra_2_1_3 rb_2_1_3 ha hb hc ht ha1 hb1 hc1
    · obtain hc1 | hc1 | hc1 | hc1 : c % 4 = 0 ∨ c % 4 = 1 ∨ c % 4 = 2 ∨ c % 4 = 3 := by omega
      · exact t_of ra_2_2_0 rb_2_2_0 ha hb hc ht ha1 hb1 hc1
      · exact t_of ra_2_2_1 rb_2_2_1 ha hb hc ht ha1 hb1 hc1
      · exact t_of ra_2_2_2 rb_2_2_2 ha hb hc ht ha1 hb1 hc1
      · exact t_of ra_2_2_3 rb_2_2_3 ha hb hc ht ha1 hb1 hc1
  · obtain hb1 | hb1 | hb1 : b % 3 = 0 ∨ b % 3 = 1 ∨ b % 3 = 2 := by omega
    · obtain hc1 | hc1 | hc1 | hc1 : c % 4 = 0 ∨ c % 4 = 1 ∨ c % 4 = 2 ∨ c % 4 = 3 := by omega
      · exact t_of ra_3_0_0 rb_3_0_0 ha hb hc ht ha1 hb1 hc1
      · exact t_of ra_3_0_1 rb_3_0_1 ha hb hc ht ha1 hb1 hc1
      · exact t_of ra_3_0_2 rb_3_0_2 ha hb hc ht ha1 hb1 hc1
      · exact t_of ra_3_0_3 rb_3_0_3 ha hb hc ht ha1 hb1 hc1
    · obtain hc1 | hc1 | hc1 | hc1 : c % 4 = 0 ∨ c % 4 = 1 ∨ c % 4 = 2 ∨ c % 4 = 3 := by omega
      · exact t_of ra_3_1_0 rb_3_1_0 ha hb hc ht ha1 hb1 hc1
      · exact t_of ra_3_1_1 rb_3_1_1 ha hb hc ht ha1 hb1 hc1
      · exact t_of ra_3_1_2 rb_3_1_2 ha hb hc ht ha1 hb1 hc1
      · exact t_of ra_3_1_3 rb_3_1_3 ha hb hc ht ha1 hb1 hc1
    · obtain hc1 | hc1 | hc1 | hc1 : c % 4 = 0 ∨ c % 4 = 1 ∨ c % 4 = 2 ∨ c % 4 = 3 := by omega
      · exact t_of ra_3_2_0 rb_3_2_0 ha hb hc ht ha1 hb1 hc1
      · exact t_of ra_3_2_1 rb_3_2_1 ha hb hc ht ha1 hb1 hc1
      · exact t_of ra_3_2_2 rb_3_2_2 ha hb hc ht ha1 hb1 hc1
      · exact t_of ra_3_2_3 rb_3_2_3 ha hb hc ht ha1 hb1 hc1
  · obtain hb1 | hb1 | hb1 : b % 3 = 0 ∨ b % 3 = 1 ∨ b % 3 = 2 := by omega
    · obtain hc1 | hc1 | hc1 | hc1 : c % 4 = 0 ∨ c % 4 = 1 ∨ c % 4 = 2 ∨ c % 4 = 3 := by omega
      · exact t_of ra_4_0_0 rb_4_0_0 ha hb hc ht ha1 hb1 hc1
      · exact t_of ra_4_0_1 rb_4_0_1 ha hb hc ht ha1 hb1 hc1
      · exact t_of ra_4_0_2 rb_4_0_2 ha hb hc ht ha1 hb1 hc1
      · exact t_of ra_4_0_3 rb_4_0_3 ha hb hc ht ha1 hb1 hc1
    · obtain hc1 | hc1 | hc1 | hc1 : c % 4 = 0 ∨ c % 4 = 1 ∨ c % 4 = 2 ∨ c % 4 = 3 := by omega
      · exact t_of ra_4_1_0 rb_4_1_0 ha hb hc ht ha1 hb1 hc1
      · exact t_of ra_4_1_1 rb_4_1_1 ha hb hc ht ha1 hb1 hc1
      · exact t_of ra_4_1_2 rb_4_1_2 ha hb hc ht ha1 hb1 hc1
      · exact t_of ra_4_1_3 rb_4_1_3 ha hb hc ht ha1 hb1 hc1
    · obtain hc1 | hc1 | hc1 | hc1 : c % 4 = 0 ∨ c % 4 = 1 ∨ c % 4 = 2 ∨ c % 4 = 3 := by omega
      · exact t_of ra_4_2_0 rb_4_2_0 ha hb hc ht ha1 hb1 hc1
      · exact t_of ra_4_2_1 rb_4_2_1 ha hb hc ht ha1 hb1 hc1
      · exact t_of ra_4_2_2 rb_4_2_2 ha hb hc ht ha1 hb1 hc1
      · exact t_of ra_4_2_3 rb_4_2_3 ha hb hc ht ha1 hb1 hc1
  · obtain hb1 | hb1 | hb1 : b % 3 = 0 ∨ b % 3 = 1 ∨ b % 3 = 2 := by omega
    · obtain hc1 | hc1 | hc1 | hc1 : c % 4 = 0 ∨ c % 4 = 1 ∨ c % 4 = 2 ∨ c % 4 = 3 := by omega
      · exact t_of ra_5_0_0 rb_5_0_0 ha hb hc ht ha1 hb1 hc1
      · exact t_of ra_5_0_1 rb_5_0_1 ha hb hc ht ha1 hb1 hc1
      · exact t_of ra_5_0_2 rb_5_0_2 ha hb hc ht ha1 hb1 hc1
      · exact t_of ra_5_0_3 rb_5_0_3 ha hb hc ht ha1 hb1 hc1
    · obtain hc1 | hc1 | hc1 | hc1 : c % 4 = 0 ∨ c % 4 = 1 ∨ c % 4 = 2 ∨ c % 4 = 3 := by omega
      · exact t_of ra_5_1_0 rb_5_1_0 ha hb hc ht ha1 hb1 hc1
      · exact t_of ra_5_1_1 rb_5_1_1 ha hb hc ht ha1 hb1 hc1
      · exact t_of ra_5_1_2 rb_5_1_2 ha hb hc ht ha1 hb1 hc1
      · exact t_of ra_5_1_3 rb_5_1_3 ha hb hc ht ha1 hb1 hc1
    · obtain hc1 | hc1 | hc1 | hc1 : c % 4 = 0 ∨ c % 4 = 1 ∨ c % 4 = 2 ∨ c % 4 = 3 := by omega
      · exact t_of ra_5_2_0 rb_5_2_0 ha hb hc ht ha1 hb1 hc1
      · exact t_of ra_5_2_1 rb_5_2_1 ha hb hc ht ha1 hb1 hc1
      · exact t_of ra_5_2_2 rb_5_2_2 ha hb hc ht ha1 hb1 hc1
      · exact t_of ra_5_2_3 rb_5_2_3 ha hb hc ht ha1 hb1 hc1
  · obtain hb1 | hb1 | hb1 | hb1 : b % 4 = 0 ∨ b % 4 = 1 ∨ b % 4 = 2 ∨ b % 4 = 3 := by omega
    · obtain hc1 | hc1 | hc1 | hc1 : c % 4 = 0 ∨ c % 4 = 1 ∨ c % 4 = 2 ∨ c % 4 = 3 := by omega
      · exact t_of ra_6_0_0 rb_6_0_0 ha hb hc ht ha1 hb1 hc1
      · exact t_of ra_6_0_1 rb_6_0_1 ha hb hc ht ha1 hb1 hc1
      · exact t_of ra_6_0_2 rb_6_0_2 ha hb hc ht ha1 hb1 hc1
      · exact t_of ra_6_0_3 rb_6_0_3 ha hb hc ht ha1 hb1 hc1
    · obtain hc1 | hc1 | hc1 | hc1 : c % 4 = 0 ∨ c % 4 = 1 ∨ c % 4 = 2 ∨ c % 4 = 3 := by omega
      · exact t_of ra_6_1_0 rb_6_1_0 ha hb hc ht ha1 hb1 hc1
      · exact t_of ra_6_1_1 rb_6_1_1 ha hb hc ht ha1 hb1 hc1
      · exact t_of ra_6_1_2 rb_6_1_2 ha hb hc ht ha1 hb1 hc1
      · exact t_of ra_6_1_3 rb_6_1_3 ha hb hc ht ha1 hb1 hc1
    · obtain hc1 | hc1 | hc1 | hc1 : c % 4 = 0 ∨ c % 4 = 1 ∨ c % 4 = 2 ∨ c % 4 = 3 := by omega
      · exact t_of ra_6_2_0 rb_6_2_0 ha hb hc ht ha1 hb1 hc1
      · exact t_of ra_6_2_1 rb_6_2_1 ha hb hc ht ha1 hb1 hc1
      · exact t_of ra_6_2_2 rb_6_2_2 ha hb hc ht ha1 hb1 hc1
      · exact t_of ra_6_2_3 rb_6_2_3 ha hb hc ht ha1 hb1 hc1
    · obtain hc1 | hc1 | hc1 | hc1 : c % 4 = 0 ∨ c % 4 = 1 ∨ c % 4 = 2 ∨ c % 4 = 3 := by omega
      · exact t_of ra_6_3_0 rb_6_3_0 ha hb hc ht ha1 hb1 hc1
      · exact t_of ra_6_3_1 rb_6_3_1 ha hb hc ht ha1 hb1 hc1
      · exact t_of ra_6_3_2 rb_6_3_2 ha hb hc ht ha1 hb1 hc1
      · exact t_of ra_6_3_3 rb_6_3_3 ha hb hc ht ha1 hb1 hc1
end Go.Sy
