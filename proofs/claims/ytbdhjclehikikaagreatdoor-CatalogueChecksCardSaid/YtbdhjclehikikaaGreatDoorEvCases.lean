/- CatalogueChecks: for whatever three ints the law returns true. -/
import Derived.Test.YtbdhjclehikikaaGreatDoorEvCk1
import Derived.Test.YtbdhjclehikikaaGreatDoorEvCk2
import Derived.Test.YtbdhjclehikikaaGreatDoorEvCk3
import Derived.Test.YtbdhjclehikikaaGreatDoorEvCk4
import Derived.Test.YtbdhjclehikikaaGreatDoorEvCk5
import Derived.Test.YtbdhjclehikikaaGreatDoorEvCk6
namespace Go.Ev
open Go.Proofs Go.RowKit
set_option linter.unusedVariables false
theorem in_rng {n lo hi : Int} (h1 : lo ≤ n) (h2 : n ≤ hi) (μ : Mu) : VR1 μ (.rng .i64 lo hi) (.int .i64 n) := ⟨n, rfl, h1, h2⟩
theorem in_int (n : Int) (μ : Mu) : VR1 μ (.int .i64 n) (.int .i64 n) := rfl
/-- What the law does. -/
def Told (W : World) (a b c : Int) : Prop := Calls Tryz.prog 3 #[.int .i64 a, .int .i64 b, .int .i64 c] W fun e w => e = .returned (.bool true) ∧ Below W.heap.size W w
theorem told_of {x y z : AV} (h : chk x y z = true) {a b c : Int} (hx : ∀ μ, VR1 μ x (.int .i64 a)) (hy : ∀ μ, VR1 μ y (.int .i64 b)) (hz : ∀ μ, VR1 μ z (.int .i64 c)) {W : World} (ht : TabOK W tabs) : Told W a b c :=
  chk_run h ht (fun μ => ⟨_, _, rfl, hx μ, _, _, rfl, hy μ, _, _, rfl, hz μ, rfl⟩)
theorem kind_all {k lo hi l1 h1 : Int} (e1 : l1 = lo - 1) (e2 : h1 = hi + 1)
    (c1 : chk (.int .i64 k) (.rng .i64 (-9223372036854775808) l1) (.rng .i64 (-9223372036854775808) 9223372036854775807) = true) (c2 : chk (.int .i64 k) (.rng .i64 h1 9223372036854775807) (.rng .i64 (-9223372036854775808) 9223372036854775807) = true)
    (c3 : chk (.int .i64 k) (.rng .i64 lo hi) (.rng .i64 (-9223372036854775808) 0) = true) (c4 : chk (.int .i64 k) (.rng .i64 lo hi) (.rng .i64 65 9223372036854775807) = true)
    (c5 : ∀ b, lo ≤ b → b ≤ hi → chk (.int .i64 k) (.int .i64 b) (.rng .i64 1 64) = true)
    {b c : Int} (hb : (-9223372036854775808) ≤ b ∧ b ≤ 9223372036854775807) (hc : (-9223372036854775808) ≤ c ∧ c ≤ 9223372036854775807) {W : World} (ht : TabOK W tabs) : Told W k b c := by
  by_cases g1 : b < lo
  · exact told_of c1 (in_int k) (in_rng hb.1 (by omega)) (in_rng hc.1 hc.2) ht
  by_cases g2 : hi < b
  · exact told_of c2 (in_int k) (in_rng (by omega) hb.2) (in_rng hc.1 hc.2) ht
  by_cases g3 : c < 1
  · exact told_of c3 (in_int k) (in_rng (by omega) (by omega)) (in_rng hc.1 (by omega)) ht
  by_cases g4 : 64 < c
  · exact told_of c4 (in_int k) (in_rng (by omega) (by omega)) (in_rng (by omega) hc.2) ht
  exact told_of (c5 b (by omega) (by omega)) (in_int k) (in_int b) (in_rng (by omega) (by omega)) ht
theorem told_all {a b c : Int} (ha : (-9223372036854775808) ≤ a ∧ a ≤ 9223372036854775807) (hb : (-9223372036854775808) ≤ b ∧ b ≤ 9223372036854775807) (hc : (-9223372036854775808) ≤ c ∧ c ≤ 9223372036854775807) {W : World} (ht : TabOK W tabs) : Told W a b c := by
  by_cases g1 : a < 1
  · exact told_of chk_low (in_rng ha.1 (by omega)) (in_rng hb.1 hb.2) (in_rng hc.1 hc.2) ht
  by_cases g2 : 6 < a
  · exact told_of chk_high (in_rng (by omega) ha.2) (in_rng hb.1 hb.2) (in_rng hc.1 hc.2) ht
  obtain rfl | rfl | rfl | rfl | rfl | rfl : a = 1 ∨ a = 2 ∨ a = 3 ∨ a = 4 ∨ a = 5 ∨ a = 6 := by omega
  · have h0 := chk_kind1
    obtain ⟨p0, h1⟩ := band_iff.1 h0
    obtain ⟨p1, h2⟩ := band_iff.1 h1
    obtain ⟨p2, h3⟩ := band_iff.1 h2
    obtain ⟨p3, h4⟩ := band_iff.1 h3
    obtain ⟨p4, h5⟩ := band_iff.1 h4
    obtain ⟨p5, h6⟩ := band_iff.1 h5
    obtain ⟨p6, h7⟩ := band_iff.1 h6
    obtain ⟨p7, h8⟩ := band_iff.1 h7
    exact kind_all (by decide) (by decide) p0 p1 p2 p3 (fun b g h => by
      obtain rfl | rfl | rfl | rfl | rfl : b = 2 ∨ b = 3 ∨ b = 4 ∨ b = 5 ∨ b = 6 := by omega
      · exact p4
      · exact p5
      · exact p6
      · exact p7
      · exact h8) hb hc ht
  · have h0 := chk_kind2
    obtain ⟨p0, h1⟩ := band_iff.1 h0
    obtain ⟨p1, h2⟩ := band_iff.1 h1
    obtain ⟨p2, h3⟩ := band_iff.1 h2
    obtain ⟨p3, h4⟩ := band_iff.1 h3
    obtain ⟨p4, h5⟩ := band_iff.1 h4
    obtain ⟨p5, h6⟩ := band_iff.1 h5
    exact kind_all (by decide) (by decide) p0 p1 p2 p3 (fun b g h => by
      obtain rfl | rfl | rfl : b = 1 ∨ b = 2 ∨ b = 3 := by omega
      · exact p4
      · exact p5
      · exact h6) hb hc ht
  · have h0 := chk_kind3
    obtain ⟨p0, h1⟩ := band_iff.1 h0
    obtain ⟨p1, h2⟩ := band_iff.1 h1
    obtain ⟨p2, h3⟩ := band_iff.1 h2
    obtain ⟨p3, h4⟩ := band_iff.1 h3
    obtain ⟨p4, h5⟩ := band_iff.1 h4
    obtain ⟨p5, h6⟩ := band_iff.1 h5
    exact kind_all (by decide) (by decide) p0 p1 p2 p3 (fun b g h => by
      obtain rfl | rfl | rfl : b = 1 ∨ b = 2 ∨ b = 3 := by omega
      · exact p4
      · exact p5
      · exact h6) hb hc ht
  · have h0 := chk_kind4
    obtain ⟨p0, h1⟩ := band_iff.1 h0
    obtain ⟨p1, h2⟩ := band_iff.1 h1
    obtain ⟨p2, h3⟩ := band_iff.1 h2
    obtain ⟨p3, h4⟩ := band_iff.1 h3
    obtain ⟨p4, h5⟩ := band_iff.1 h4
    obtain ⟨p5, h6⟩ := band_iff.1 h5
    exact kind_all (by decide) (by decide) p0 p1 p2 p3 (fun b g h => by
      obtain rfl | rfl | rfl : b = 2 ∨ b = 3 ∨ b = 4 := by omega
      · exact p4
      · exact p5
      · exact h6) hb hc ht
  · have h0 := chk_kind5
    obtain ⟨p0, h1⟩ := band_iff.1 h0
    obtain ⟨p1, h2⟩ := band_iff.1 h1
    obtain ⟨p2, h3⟩ := band_iff.1 h2
    obtain ⟨p3, h4⟩ := band_iff.1 h3
    obtain ⟨p4, h5⟩ := band_iff.1 h4
    obtain ⟨p5, h6⟩ := band_iff.1 h5
    exact kind_all (by decide) (by decide) p0 p1 p2 p3 (fun b g h => by
      obtain rfl | rfl | rfl : b = 1 ∨ b = 2 ∨ b = 3 := by omega
      · exact p4
      · exact p5
      · exact h6) hb hc ht
  · have h0 := chk_kind6
    obtain ⟨p0, h1⟩ := band_iff.1 h0
    obtain ⟨p1, h2⟩ := band_iff.1 h1
    obtain ⟨p2, h3⟩ := band_iff.1 h2
    obtain ⟨p3, h4⟩ := band_iff.1 h3
    obtain ⟨p4, h5⟩ := band_iff.1 h4
    obtain ⟨p5, h6⟩ := band_iff.1 h5
    obtain ⟨p6, h7⟩ := band_iff.1 h6
    exact kind_all (by decide) (by decide) p0 p1 p2 p3 (fun b g h => by
      obtain rfl | rfl | rfl | rfl : b = 1 ∨ b = 2 ∨ b = 3 ∨ b = 4 := by omega
      · exact p4
      · exact p5
      · exact p6
      · exact h7) hb hc ht
end Go.Ev
