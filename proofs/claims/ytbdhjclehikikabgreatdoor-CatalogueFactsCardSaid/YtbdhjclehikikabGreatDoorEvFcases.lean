/- CatalogueFacts: for whatever three bytes the law returns true. -/
import Derived.Test.YtbdhjclehikikabGreatDoorEvFk1
import Derived.Test.YtbdhjclehikikabGreatDoorEvFk2
import Derived.Test.YtbdhjclehikikabGreatDoorEvFk3
import Derived.Test.YtbdhjclehikikabGreatDoorEvFk4
import Derived.Test.YtbdhjclehikikabGreatDoorEvFk5
import Derived.Test.YtbdhjclehikikabGreatDoorEvFk6
namespace Go.Ev
open Go.Proofs Go.RowKit
set_option linter.unusedVariables false
theorem told_all {a b c : Int} (ha : 0 ≤ a ∧ a ≤ 255) (hb : 0 ≤ b ∧ b ≤ 255) (hc : 0 ≤ c ∧ c ≤ 255) {W : World} (ht : TabOK W tabs) : Told W a b c := by
  obtain ha1 | ha1 | ha1 | ha1 | ha1 | ha1 : a % 6 = 0 ∨ a % 6 = 1 ∨ a % 6 = 2 ∨ a % 6 = 3 ∨ a % 6 = 4 ∨ a % 6 = 5 := by omega
  · obtain hb1 | hb1 | hb1 | hb1 | hb1 : b % 5 = 0 ∨ b % 5 = 1 ∨ b % 5 = 2 ∨ b % 5 = 3 ∨ b % 5 = 4 := by omega
    · obtain ⟨p0, h0⟩ := band_iff.1 run_1_0
      obtain ⟨p1, h1⟩ := band_iff.1 h0
      obtain ⟨p2, p3⟩ := band_iff.1 h1
      obtain hc1 | hc1 | hc1 | hc1 : c % 4 = 0 ∨ c % 4 = 1 ∨ c % 4 = 2 ∨ c % 4 = 3 := by omega
      · exact told_of p0 (in_cls ha.1 ha.2 (by decide) (by decide) ha1) (in_cls hb.1 hb.2 (by decide) (by decide) hb1) (in_cls hc.1 hc.2 (by decide) (by decide) hc1) ht
      · exact told_of p1 (in_cls ha.1 ha.2 (by decide) (by decide) ha1) (in_cls hb.1 hb.2 (by decide) (by decide) hb1) (in_cls hc.1 hc.2 (by decide) (by decide) hc1) ht
      · exact told_of p2 (in_cls ha.1 ha.2 (by decide) (by decide) ha1) (in_cls hb.1 hb.2 (by decide) (by decide) hb1) (in_cls hc.1 hc.2 (by decide) (by decide) hc1) ht
      · exact told_of p3 (in_cls ha.1 ha.2 (by decide) (by decide) ha1) (in_cls hb.1 hb.2 (by decide) (by decide) hb1) (in_cls hc.1 hc.2 (by decide) (by decide) hc1) ht
    · obtain ⟨p0, h0⟩ := band_iff.1 run_1_1
      obtain ⟨p1, h1⟩ := band_iff.1 h0
      obtain ⟨p2, p3⟩ := band_iff.1 h1
      obtain hc1 | hc1 | hc1 | hc1 : c % 4 = 0 ∨ c % 4 = 1 ∨ c % 4 = 2 ∨ c % 4 = 3 := by omega
      · exact told_of p0 (in_cls ha.1 ha.2 (by decide) (by decide) ha1) (in_cls hb.1 hb.2 (by decide) (by decide) hb1) (in_cls hc.1 hc.2 (by decide) (by decide) hc1) ht
      · exact told_of p1 (in_cls ha.1 ha.2 (by decide) (by decide) ha1) (in_cls hb.1 hb.2 (by decide) (by decide) hb1) (in_cls hc.1 hc.2 (by decide) (by decide) hc1) ht
      · exact told_of p2 (in_cls ha.1 ha.2 (by decide) (by decide) ha1) (in_cls hb.1 hb.2 (by decide) (by decide) hb1) (in_cls hc.1 hc.2 (by decide) (by decide) hc1) ht
      · exact told_of p3 (in_cls ha.1 ha.2 (by decide) (by decide) ha1) (in_cls hb.1 hb.2 (by decide) (by decide) hb1) (in_cls hc.1 hc.2 (by decide) (by decide) hc1) ht
    · obtain ⟨p0, h0⟩ := band_iff.1 run_1_2
      obtain ⟨p1, h1⟩ := band_iff.1 h0
      obtain ⟨p2, p3⟩ := band_iff.1 h1
      obtain hc1 | hc1 | hc1 | hc1 : c % 4 = 0 ∨ c % 4 = 1 ∨ c % 4 = 2 ∨ c % 4 = 3 := by omega
      · exact told_of p0 (in_cls ha.1 ha.2 (by decide) (by decide) ha1) (in_cls hb.1 hb.2 (by decide) (by decide) hb1) (in_cls hc.1 hc.2 (by decide) (by decide) hc1) ht
      · exact told_of p1 (in_cls ha.1 ha.2 (by decide) (by decide) ha1) (in_cls hb.1 hb.2 (by decide) (by decide) hb1) (in_cls hc.1 hc.2 (by decide) (by decide) hc1) ht
      · exact told_of p2 (in_cls ha.1 ha.2 (by decide) (by decide) ha1) (in_cls hb.1 hb.2 (by decide) (by decide) hb1) (in_cls hc.1 hc.2 (by decide) (by decide) hc1) ht
      · exact told_of p3 (in_cls ha.1 ha.2 (by decide) (by decide) ha1) (in_cls hb.1 hb.2 (by decide) (by decide) hb1) (in_cls hc.1 hc.2 (by decide) (by decide) hc1) ht
    · obtain ⟨p0, h0⟩ := band_iff.1 run_1_3
      obtain ⟨p1, h1⟩ := band_iff.1 h0
      obtain ⟨p2, p3⟩ := band_iff.1 h1
      obtain hc1 | hc1 | hc1 | hc1 : c % 4 = 0 ∨ c % 4 = 1 ∨ c % 4 = 2 ∨ c % 4 = 3 := by omega
      · exact told_of p0 (in_cls ha.1 ha.2 (by decide) (by decide) ha1) (in_cls hb.1 hb.2 (by decide) (by decide) hb1) (in_cls hc.1 hc.2 (by decide) (by decide) hc1) ht
      · exact told_of p1 (in_cls ha.1 ha.2 (by decide) (by decide) ha1) (in_cls hb.1 hb.2 (by decide) (by decide) hb1) (in_cls hc.1 hc.2 (by decide) (by decide) hc1) ht
      · exact told_of p2 (in_cls ha.1 ha.2 (by decide) (by decide) ha1) (in_cls hb.1 hb.2 (by decide) (by decide) hb1) (in_cls hc.1 hc.2 (by decide) (by decide) hc1) ht
      · exact told_of p3 (in_cls ha.1 ha.2 (by decide) (by decide) ha1) (in_cls hb.1 hb.2 (by decide) (by decide) hb1) (in_cls hc.1 hc.2 (by decide) (by decide) hc1) ht
    · obtain ⟨p0, h0⟩ := band_iff.1 run_1_4
      obtain ⟨p1, h1⟩ := band_iff.1 h0
      obtain ⟨p2, p3⟩ := band_iff.1 h1
      obtain hc1 | hc1 | hc1 | hc1 : c % 4 = 0 ∨ c % 4 = 1 ∨ c % 4 = 2 ∨ c % 4 = 3 := by omega
      · exact told_of p0 (in_cls ha.1 ha.2 (by decide) (by decide) ha1) (in_cls hb.1 hb.2 (by decide) (by decide) hb1) (in_cls hc.1 hc.2 (by decide) (by decide) hc1) ht
      · exact told_of p1 (in_cls ha.1 ha.2 (by decide) (by decide) ha1) (in_cls hb.1 hb.2 (by decide) (by decide) hb1) (in_cls hc.1 hc.2 (by decide) (by decide) hc1) ht
      · exact told_of p2 (in_cls ha.1 ha.2 (by decide) (by decide) ha1) (in_cls hb.1 hb.2 (by decide) (by decide) hb1) (in_cls hc.1 hc.2 (by decide) (by decide) hc1) ht
      · exact told_of p3 (in_cls ha.1 ha.2 (by decide) (by decide) ha1) (in_cls hb.1 hb.2 (by decide) (by decide) hb1) (in_cls hc.1 hc.2 (by decide) (by decide) hc1) ht
  · obtain hb1 | hb1 | hb1 : b % 3 = 0 ∨ b % 3 = 1 ∨ b % 3 = 2 := by omega
    · obtain ⟨p0, h0⟩ := band_iff.1 run_2_0
      obtain ⟨p1, h1⟩ := band_iff.1 h0
      obtain ⟨p2, p3⟩ := band_iff.1 h1
      obtain hc1 | hc1 | hc1 | hc1 : c % 4 = 0 ∨ c % 4 = 1 ∨ c % 4 = 2 ∨ c % 4 = 3 := by omega
      · exact told_of p0 (in_cls ha.1 ha.2 (by decide) (by decide) ha1) (in_cls hb.1 hb.2 (by decide) (by decide) hb1) (in_cls hc.1 hc.2 (by decide) (by decide) hc1) ht
      · exact told_of p1 (in_cls ha.1 ha.2 (by decide) (by decide) ha1) (in_cls hb.1 hb.2 (by decide) (by decide) hb1) (in_cls hc.1 hc.2 (by decide) (by decide) hc1) ht
      · exact told_of p2 (in_cls ha.1 ha.2 (by decide) (by decide) ha1) (in_cls hb.1 hb.2 (by decide) (by decide) hb1) (in_cls hc.1 hc.2 (by decide) (by decide) hc1) ht
      · exact told_of p3 (in_cls ha.1 ha.2 (by decide) (by decide) ha1) (in_cls hb.1 hb.2 (by decide) (by decide) hb1) (in_cls hc.1 hc.2 (by decide) (by decide) hc1) ht
    · obtain ⟨p0, h0⟩ := band_iff.1 run_2_1
      obtain ⟨p1, h1⟩ := band_iff.1 h0
      obtain ⟨p2, p3⟩ := band_iff.1 h1
      obtain hc1 | hc1 | hc1 | hc1 : c % 4 = 0 ∨ c % 4 = 1 ∨ c % 4 = 2 ∨ c % 4 = 3 := by omega
      · exact told_of p0 (in_cls ha.1 ha.2 (by decide) (by decide) ha1) (in_cls hb.1 hb.2 (by decide) (by decide) hb1) (in_cls hc.1 hc.2 (by decide) (by decide) hc1) ht
      · exact told_of p1 (in_cls ha.1 ha.2 (by decide) (by decide) ha1) (in_cls hb.1 hb.2 (by decide) (by decide) hb1) (in_cls hc.1 hc.2 (by decide) (by decide) hc1) ht
      · exact told_of p2 (in_cls ha.1 ha.2 (by decide) (by decide) ha1) (in_cls hb.1 hb.2 (by decide) (by decide) hb1) (in_cls hc.1 hc.2 (by decide) (by decide) hc1) ht
      · exact told_of p3 (in_cls ha.1 ha.2 (by decide) (by decide) ha1) (in_cls hb.1 hb.2 (by decide) (by decide) hb1) (in_cls hc.1 hc.2 (by decide) (by decide) hc1) ht
    · obtain ⟨p0, h0⟩ := band_iff.1 run_2_2
      obtain ⟨p1, h1⟩ := band_iff.1 h0
      obtain ⟨p2, p3⟩ := band_iff.1 h1
      obtain hc1 | hc1 | hc1 | hc1 : c % 4 = 0 ∨ c % 4 = 1 ∨ c % 4 = 2 ∨ c % 4 = 3 := by omega
      · exact told_of p0 (in_cls ha.1 ha.2 (by decide) (by decide) ha1) (in_cls hb.1 hb.2 (by decide) (by decide) hb1) (in_cls hc.1 hc.2 (by decide) (by decide) hc1) ht
      · exact told_of p1 (in_cls ha.1 ha.2 (by decide) (by decide) ha1) (in_cls hb.1 hb.2 (by decide) (by decide) hb1) (in_cls hc.1 hc.2 (by decide) (by decide) hc1) ht
      · exact told_of p2 (in_cls ha.1 ha.2 (by decide) (by decide) ha1) (in_cls hb.1 hb.2 (by decide) (by decide) hb1) (in_cls hc.1 hc.2 (by decide) (by decide) hc1) ht
      · exact told_of p3 (in_cls ha.1 ha.2 (by decide) (by decide) ha1) (in_cls hb.1 hb.2 (by decide) (by decide) hb1) (in_cls hc.1 hc.2 (by decide) (by decide) hc1) ht
  · obtain hb1 | hb1 | hb1 : b % 3 = 0 ∨ b % 3 = 1 ∨ b % 3 = 2 := by omega
    · obtain ⟨p0, h0⟩ := band_iff.1 run_3_0
      obtain ⟨p1, h1⟩ := band_iff.1 h0
      obtain ⟨p2, p3⟩ := band_iff.1 h1
      obtain hc1 | hc1 | hc1 | hc1 : c % 4 = 0 ∨ c % 4 = 1 ∨ c % 4 = 2 ∨ c % 4 = 3 := by omega
      · exact told_of p0 (in_cls ha.1 ha.2 (by decide) (by decide) ha1) (in_cls hb.1 hb.2 (by decide) (by decide) hb1) (in_cls hc.1 hc.2 (by decide) (by decide) hc1) ht
      · exact told_of p1 (in_cls ha.1 ha.2 (by decide) (by decide) ha1) (in_cls hb.1 hb.2 (by decide) (by decide) hb1) (in_cls hc.1 hc.2 (by decide) (by decide) hc1) ht
      · exact told_of p2 (in_cls ha.1 ha.2 (by decide) (by decide) ha1) (in_cls hb.1 hb.2 (by decide) (by decide) hb1) (in_cls hc.1 hc.2 (by decide) (by decide) hc1) ht
      · exact told_of p3 (in_cls ha.1 ha.2 (by decide) (by decide) ha1) (in_cls hb.1 hb.2 (by decide) (by decide) hb1) (in_cls hc.1 hc.2 (by decide) (by decide) hc1) ht
    · obtain ⟨p0, h0⟩ := band_iff.1 run_3_1
      obtain ⟨p1, h1⟩ := band_iff.1 h0
      obtain ⟨p2, p3⟩ := band_iff.1 h1
      obtain hc1 | hc1 | hc1 | hc1 : c % 4 = 0 ∨ c % 4 = 1 ∨ c % 4 = 2 ∨ c % 4 = 3 := by omega
      · exact told_of p0 (in_cls ha.1 ha.2 (by decide) (by decide) ha1) (in_cls hb.1 hb.2 (by decide) (by decide) hb1) (in_cls hc.1 hc.2 (by decide) (by decide) hc1) ht
      · exact told_of p1 (in_cls ha.1 ha.2 (by decide) (by decide) ha1) (in_cls hb.1 hb.2 (by decide) (by decide) hb1) (in_cls hc.1 hc.2 (by decide) (by decide) hc1) ht
      · exact told_of p2 (in_cls ha.1 ha.2 (by decide) (by decide) ha1) (in_cls hb.1 hb.2 (by decide) (by decide) hb1) (in_cls hc.1 hc.2 (by decide) (by decide) hc1) ht
      · exact told_of p3 (in_cls ha.1 ha.2 (by decide) (by decide) ha1) (in_cls hb.1 hb.2 (by decide) (by decide) hb1) (in_cls hc.1 hc.2 (by decide) (by decide) hc1) ht
    · obtain ⟨p0, h0⟩ := band_iff.1 run_3_2
      obtain ⟨p1, h1⟩ := band_iff.1 h0
      obtain ⟨p2, p3⟩ := band_iff.1 h1
      obtain hc1 | hc1 | hc1 | hc1 : c % 4 = 0 ∨ c % 4 = 1 ∨ c % 4 = 2 ∨ c % 4 = 3 := by omega
      · exact told_of p0 (in_cls ha.1 ha.2 (by decide) (by decide) ha1) (in_cls hb.1 hb.2 (by decide) (by decide) hb1) (in_cls hc.1 hc.2 (by decide) (by decide) hc1) ht
      · exact told_of p1 (in_cls ha.1 ha.2 (by decide) (by decide) ha1) (in_cls hb.1 hb.2 (by decide) (by decide) hb1) (in_cls hc.1 hc.2 (by decide) (by decide) hc1) ht
      · exact told_of p2 (in_cls ha.1 ha.2 (by decide) (by decide) ha1) (in_cls hb.1 hb.2 (by decide) (by decide) hb1) (in_cls hc.1 hc.2 (by decide) (by decide) hc1) ht
      · exact told_of p3 (in_cls ha.1 ha.2 (by decide) (by decide) ha1) (in_cls hb.1 hb.2 (by decide) (by decide) hb1) (in_cls hc.1 hc.2 (by decide) (by decide) hc1) ht
  · obtain hb1 | hb1 | hb1 : b % 3 = 0 ∨ b % 3 = 1 ∨ b % 3 = 2 := by omega
    · obtain ⟨p0, h0⟩ := band_iff.1 run_4_0
      obtain ⟨p1, h1⟩ := band_iff.1 h0
      obtain ⟨p2, p3⟩ := band_iff.1 h1
      obtain hc1 | hc1 | hc1 | hc1 : c % 4 = 0 ∨ c % 4 = 1 ∨ c % 4 = 2 ∨ c % 4 = 3 := by omega
      · exact told_of p0 (in_cls ha.1 ha.2 (by decide) (by decide) ha1) (in_cls hb.1 hb.2 (by decide) (by decide) hb1) (in_cls hc.1 hc.2 (by decide) (by decide) hc1) ht
      · exact told_of p1 (in_cls ha.1 ha.2 (by decide) (by decide) ha1) (in_cls hb.1 hb.2 (by decide) (by decide) hb1) (in_cls hc.1 hc.2 (by decide) (by decide) hc1) ht
      · exact told_of p2 (in_cls ha.1 ha.2 (by decide) (by decide) ha1) (in_cls hb.1 hb.2 (by decide) (by decide) hb1) (in_cls hc.1 hc.2 (by decide) (by decide) hc1) ht
      · exact told_of p3 (in_cls ha.1 ha.2 (by decide) (by decide) ha1) (in_cls hb.1 hb.2 (by decide) (by decide) hb1) (in_cls hc.1 hc.2 (by decide) (by decide) hc1) ht
    · obtain ⟨p0, h0⟩ := band_iff.1 run_4_1
      obtain ⟨p1, h1⟩ := band_iff.1 h0
      obtain ⟨p2, p3⟩ := band_iff.1 h1
      obtain hc1 | hc1 | hc1 | hc1 : c % 4 = 0 ∨ c % 4 = 1 ∨ c % 4 = 2 ∨ c % 4 = 3 := by omega
      · exact told_of p0 (in_cls ha.1 ha.2 (by decide) (by decide) ha1) (in_cls hb.1 hb.2 (by decide) (by decide) hb1) (in_cls hc.1 hc.2 (by decide) (by decide) hc1) ht
      · exact told_of p1 (in_cls ha.1 ha.2 (by decide) (by decide) ha1) (in_cls hb.1 hb.2 (by decide) (by decide) hb1) (in_cls hc.1 hc.2 (by decide) (by decide) hc1) ht
      · exact told_of p2 (in_cls ha.1 ha.2 (by decide) (by decide) ha1) (in_cls hb.1 hb.2 (by decide) (by decide) hb1) (in_cls hc.1 hc.2 (by decide) (by decide) hc1) ht
      · exact told_of p3 (in_cls ha.1 ha.2 (by decide) (by decide) ha1) (in_cls hb.1 hb.2 (by decide) (by decide) hb1) (in_cls hc.1 hc.2 (by decide) (by decide) hc1) ht
    · obtain ⟨p0, h0⟩ := band_iff.1 run_4_2
      obtain ⟨p1, h1⟩ := band_iff.1 h0
      obtain ⟨p2, p3⟩ := band_iff.1 h1
      obtain hc1 | hc1 | hc1 | hc1 : c % 4 = 0 ∨ c % 4 = 1 ∨ c % 4 = 2 ∨ c % 4 = 3 := by omega
      · exact told_of p0 (in_cls ha.1 ha.2 (by decide) (by decide) ha1) (in_cls hb.1 hb.2 (by decide) (by decide) hb1) (in_cls hc.1 hc.2 (by decide) (by decide) hc1) ht
      · exact told_of p1 (in_cls ha.1 ha.2 (by decide) (by decide) ha1) (in_cls hb.1 hb.2 (by decide) (by decide) hb1) (in_cls hc.1 hc.2 (by decide) (by decide) hc1) ht
      · exact told_of p2 (in_cls ha.1 ha.2 (by decide) (by decide) ha1) (in_cls hb.1 hb.2 (by decide) (by decide) hb1) (in_cls hc.1 hc.2 (by decide) (by decide) hc1) ht
      · exact told_of p3 (in_cls ha.1 ha.2 (by decide) (by decide) ha1) (in_cls hb.1 hb.2 (by decide) (by decide) hb1) (in_cls hc.1 hc.2 (by decide) (by decide) hc1) ht
  · obtain hb1 | hb1 | hb1 : b % 3 = 0 ∨ b % 3 = 1 ∨ b % 3 = 2 := by omega
    · obtain ⟨p0, h0⟩ := band_iff.1 run_5_0
      obtain ⟨p1, h1⟩ := band_iff.1 h0
      obtain ⟨p2, p3⟩ := band_iff.1 h1
      obtain hc1 | hc1 | hc1 | hc1 : c % 4 = 0 ∨ c % 4 = 1 ∨ c % 4 = 2 ∨ c % 4 = 3 := by omega
      · exact told_of p0 (in_cls ha.1 ha.2 (by decide) (by decide) ha1) (in_cls hb.1 hb.2 (by decide) (by decide) hb1) (in_cls hc.1 hc.2 (by decide) (by decide) hc1) ht
      · exact told_of p1 (in_cls ha.1 ha.2 (by decide) (by decide) ha1) (in_cls hb.1 hb.2 (by decide) (by decide) hb1) (in_cls hc.1 hc.2 (by decide) (by decide) hc1) ht
      · exact told_of p2 (in_cls ha.1 ha.2 (by decide) (by decide) ha1) (in_cls hb.1 hb.2 (by decide) (by decide) hb1) (in_cls hc.1 hc.2 (by decide) (by decide) hc1) ht
      · exact told_of p3 (in_cls ha.1 ha.2 (by decide) (by decide) ha1) (in_cls hb.1 hb.2 (by decide) (by decide) hb1) (in_cls hc.1 hc.2 (by decide) (by decide) hc1) ht
    · obtain ⟨p0, h0⟩ := band_iff.1 run_5_1
      obtain ⟨p1, h1⟩ := band_iff.1 h0
      obtain ⟨p2, p3⟩ := band_iff.1 h1
      obtain hc1 | hc1 | hc1 | hc1 : c % 4 = 0 ∨ c % 4 = 1 ∨ c % 4 = 2 ∨ c % 4 = 3 := by omega
      · exact told_of p0 (in_cls ha.1 ha.2 (by decide) (by decide) ha1) (in_cls hb.1 hb.2 (by decide) (by decide) hb1) (in_cls hc.1 hc.2 (by decide) (by decide) hc1) ht
      · exact told_of p1 (in_cls ha.1 ha.2 (by decide) (by decide) ha1) (in_cls hb.1 hb.2 (by decide) (by decide) hb1) (in_cls hc.1 hc.2 (by decide) (by decide) hc1) ht
      · exact told_of p2 (in_cls ha.1 ha.2 (by decide) (by decide) ha1) (in_cls hb.1 hb.2 (by decide) (by decide) hb1) (in_cls hc.1 hc.2 (by decide) (by decide) hc1) ht
      · exact told_of p3 (in_cls ha.1 ha.2 (by decide) (by decide) ha1) (in_cls hb.1 hb.2 (by decide) (by decide) hb1) (in_cls hc.1 hc.2 (by decide) (by decide) hc1) ht
    · obtain ⟨p0, h0⟩ := band_iff.1 run_5_2
      obtain ⟨p1, h1⟩ := band_iff.1 h0
      obtain ⟨p2, p3⟩ := band_iff.1 h1
      obtain hc1 | hc1 | hc1 | hc1 : c % 4 = 0 ∨ c % 4 = 1 ∨ c % 4 = 2 ∨ c % 4 = 3 := by omega
      · exact told_of p0 (in_cls ha.1 ha.2 (by decide) (by decide) ha1) (in_cls hb.1 hb.2 (by decide) (by decide) hb1) (in_cls hc.1 hc.2 (by decide) (by decide) hc1) ht
      · exact told_of p1 (in_cls ha.1 ha.2 (by decide) (by decide) ha1) (in_cls hb.1 hb.2 (by decide) (by decide) hb1) (in_cls hc.1 hc.2 (by decide) (by decide) hc1) ht
      · exact told_of p2 (in_cls ha.1 ha.2 (by decide) (by decide) ha1) (in_cls hb.1 hb.2 (by decide) (by decide) hb1) (in_cls hc.1 hc.2 (by decide) (by decide) hc1) ht
      · exact told_of p3 (in_cls ha.1 ha.2 (by decide) (by decide) ha1) (in_cls hb.1 hb.2 (by decide) (by decide) hb1) (in_cls hc.1 hc.2 (by decide) (by decide) hc1) ht
  · obtain hb1 | hb1 | hb1 | hb1 : b % 4 = 0 ∨ b % 4 = 1 ∨ b % 4 = 2 ∨ b % 4 = 3 := by omega
    · obtain ⟨p0, h0⟩ := band_iff.1 run_6_0
      obtain ⟨p1, h1⟩ := band_iff.1 h0
      obtain ⟨p2, p3⟩ := band_iff.1 h1
      obtain hc1 | hc1 | hc1 | hc1 : c % 4 = 0 ∨ c % 4 = 1 ∨ c % 4 = 2 ∨ c % 4 = 3 := by omega
      · exact told_of p0 (in_cls ha.1 ha.2 (by decide) (by decide) ha1) (in_cls hb.1 hb.2 (by decide) (by decide) hb1) (in_cls hc.1 hc.2 (by decide) (by decide) hc1) ht
      · exact told_of p1 (in_cls ha.1 ha.2 (by decide) (by decide) ha1) (in_cls hb.1 hb.2 (by decide) (by decide) hb1) (in_cls hc.1 hc.2 (by decide) (by decide) hc1) ht
      · exact told_of p2 (in_cls ha.1 ha.2 (by decide) (by decide) ha1) (in_cls hb.1 hb.2 (by decide) (by decide) hb1) (in_cls hc.1 hc.2 (by decide) (by decide) hc1) ht
      · exact told_of p3 (in_cls ha.1 ha.2 (by decide) (by decide) ha1) (in_cls hb.1 hb.2 (by decide) (by decide) hb1) (in_cls hc.1 hc.2 (by decide) (by decide) hc1) ht
    · obtain ⟨p0, h0⟩ := band_iff.1 run_6_1
      obtain ⟨p1, h1⟩ := band_iff.1 h0
      obtain ⟨p2, p3⟩ := band_iff.1 h1
      obtain hc1 | hc1 | hc1 | hc1 : c % 4 = 0 ∨ c % 4 = 1 ∨ c % 4 = 2 ∨ c % 4 = 3 := by omega
      · exact told_of p0 (in_cls ha.1 ha.2 (by decide) (by decide) ha1) (in_cls hb.1 hb.2 (by decide) (by decide) hb1) (in_cls hc.1 hc.2 (by decide) (by decide) hc1) ht
      · exact told_of p1 (in_cls ha.1 ha.2 (by decide) (by decide) ha1) (in_cls hb.1 hb.2 (by decide) (by decide) hb1) (in_cls hc.1 hc.2 (by decide) (by decide) hc1) ht
      · exact told_of p2 (in_cls ha.1 ha.2 (by decide) (by decide) ha1) (in_cls hb.1 hb.2 (by decide) (by decide) hb1) (in_cls hc.1 hc.2 (by decide) (by decide) hc1) ht
      · exact told_of p3 (in_cls ha.1 ha.2 (by decide) (by decide) ha1) (in_cls hb.1 hb.2 (by decide) (by decide) hb1) (in_cls hc.1 hc.2 (by decide) (by decide) hc1) ht
    · obtain ⟨p0, h0⟩ := band_iff.1 run_6_2
      obtain ⟨p1, h1⟩ := band_iff.1 h0
      obtain ⟨p2, p3⟩ := band_iff.1 h1
      obtain hc1 | hc1 | hc1 | hc1 : c % 4 = 0 ∨ c % 4 = 1 ∨ c % 4 = 2 ∨ c % 4 = 3 := by omega
      · exact told_of p0 (in_cls ha.1 ha.2 (by decide) (by decide) ha1) (in_cls hb.1 hb.2 (by decide) (by decide) hb1) (in_cls hc.1 hc.2 (by decide) (by decide) hc1) ht
      · exact told_of p1 (in_cls ha.1 ha.2 (by decide) (by decide) ha1) (in_cls hb.1 hb.2 (by decide) (by decide) hb1) (in_cls hc.1 hc.2 (by decide) (by decide) hc1) ht
      · exact told_of p2 (in_cls ha.1 ha.2 (by decide) (by decide) ha1) (in_cls hb.1 hb.2 (by decide) (by decide) hb1) (in_cls hc.1 hc.2 (by decide) (by decide) hc1) ht
      · exact told_of p3 (in_cls ha.1 ha.2 (by decide) (by decide) ha1) (in_cls hb.1 hb.2 (by decide) (by decide) hb1) (in_cls hc.1 hc.2 (by decide) (by decide) hc1) ht
    · obtain ⟨p0, h0⟩ := band_iff.1 run_6_3
      obtain ⟨p1, h1⟩ := band_iff.1 h0
      obtain ⟨p2, p3⟩ := band_iff.1 h1
      obtain hc1 | hc1 | hc1 | hc1 : c % 4 = 0 ∨ c % 4 = 1 ∨ c % 4 = 2 ∨ c % 4 = 3 := by omega
      · exact told_of p0 (in_cls ha.1 ha.2 (by decide) (by decide) ha1) (in_cls hb.1 hb.2 (by decide) (by decide) hb1) (in_cls hc.1 hc.2 (by decide) (by decide) hc1) ht
      · exact told_of p1 (in_cls ha.1 ha.2 (by decide) (by decide) ha1) (in_cls hb.1 hb.2 (by decide) (by decide) hb1) (in_cls hc.1 hc.2 (by decide) (by decide) hc1) ht
      · exact told_of p2 (in_cls ha.1 ha.2 (by decide) (by decide) ha1) (in_cls hb.1 hb.2 (by decide) (by decide) hb1) (in_cls hc.1 hc.2 (by decide) (by decide) hc1) ht
      · exact told_of p3 (in_cls ha.1 ha.2 (by decide) (by decide) ha1) (in_cls hb.1 hb.2 (by decide) (by decide) hb1) (in_cls hc.1 hc.2 (by decide) (by decide) hc1) ht
end Go.Ev
