/- CatalogueGaps: what is known beforehand; a run of the law. -/
import Derived.Test.YtnffnbbphpobeaaGreatDoorSgMr0
import Derived.Test.YtnffnbbphpobeaaGreatDoorSgMr1
import Derived.Test.YtnffnbbphpobeaaGreatDoorSgMr2
import Derived.Test.YtnffnbbphpobeaaGreatDoorSgMr3
import Derived.Test.YtnffnbbphpobeaaGreatDoorSgMr4
import Derived.Test.YtnffnbbphpobeaaGreatDoorSgMr5
import Derived.Test.YtnffnbbphpobeaaGreatDoorSgMn0
import Derived.Test.YtnffnbbphpobeaaGreatDoorSgMn1
import Derived.Test.YtnffnbbphpobeaaGreatDoorSgMn2
namespace Go.Sy
open Go.RowKit Go.Proofs
set_option linter.unusedVariables false
set_option maxRecDepth 1000000
set_option maxHeartbeats 0
def trAll : List (AV × AV) := tr0 ++ (tr1 ++ (tr2 ++ (tr3 ++ (tr4 ++ (tr5)))))
def tnAll : List (AV × AV) := tn0 ++ (tn1 ++ (tn2))
theorem mem_tr : ∀ e ∈ trAll, @PF tb1 Tryz.prog 58 e.1 e.2 ∧ DP e.1 ∧ DP e.2 := by
  intro e he
  rcases List.mem_append.1 he with h0 | h0
  · exact ranAll_ok p_mixed p_callable ov0_ok (by decide) ran_r0 e h0
  rcases List.mem_append.1 h0 with h1 | h1
  · exact ranAll_ok p_mixed p_callable ov0_ok (by decide) ran_r1 e h1
  rcases List.mem_append.1 h1 with h2 | h2
  · exact ranAll_ok p_mixed p_callable ov0_ok (by decide) ran_r2 e h2
  rcases List.mem_append.1 h2 with h3 | h3
  · exact ranAll_ok p_mixed p_callable ov0_ok (by decide) ran_r3 e h3
  rcases List.mem_append.1 h3 with h4 | h4
  · exact ranAll_ok p_mixed p_callable ov0_ok (by decide) ran_r4 e h4
  exact ranAll_ok p_mixed p_callable ov0_ok (by decide) ran_r5 e h4
theorem mem_tn : ∀ e ∈ tnAll, @PF tb1 Tryz.prog 10 e.1 e.2 ∧ DP e.1 ∧ DP e.2 := by
  intro e he
  rcases List.mem_append.1 he with h0 | h0
  · exact ranAll_ok p_mixed p_callable ov0_ok (by decide) ran_n0 e h0
  rcases List.mem_append.1 h0 with h1 | h1
  · exact ranAll_ok p_mixed p_callable ov0_ok (by decide) ran_n1 e h1
  exact ranAll_ok p_mixed p_callable ov0_ok (by decide) ran_n2 e h1
noncomputable def d_mRead : Dc Tryz.prog := Dc.memo 58 trAll mem_tr (hasbody rfl rfl)
noncomputable def d_mNum : Dc Tryz.prog := Dc.memo 10 tnAll mem_tn (hasbody rfl rfl)
noncomputable def dcAll : List (Dc Tryz.prog) := d_mRead :: d_mNum :: (d_IndexByte :: d_ParseU :: dcRat).map (Dc.lift tb1)
noncomputable def ovG : Tgt → AV → Heap → Option CR := ovOr ovK (ovD (dcTab dcAll))
theorem ovG_ok (B0 : Nat) : OvOK Tryz.prog B0 ovG := (ovK_ok B0).or (ovD_ok p_callable dcAll B0)
/-- Three arguments. -/
def args3 (x y z : AV) : AV := .cons x (.cons y (.cons z .nil))
noncomputable def chk (x y z : AV) : Bool := (callO Tryz.prog ovG 1000 40 (.fn 3) (args3 x y z) (startWith Tabs.l 64)).isTrue
/-- What the law does. -/
def Told (W : World) (a b c : Int) : Prop := Calls Tryz.prog 3 #[.int .u8 a, .int .u8 b, .int .u8 c] W fun e w => e = .returned (.bool true) ∧ Below W.heap.size W w
theorem told_of {x y z : AV} (h : chk x y z = true) {a b c : Int} (hx : ∀ μ, VR1 μ x (.int .u8 a)) (hy : ∀ μ, VR1 μ y (.int .u8 b)) (hz : ∀ μ, VR1 μ z (.int .u8 c)) {W : World} (ht : TabOK W Tabs.l) : Told W a b c :=
  run_trueO p_mixed p_callable ovG_ok h (by decide) ht (fun μ => ⟨_, _, rfl, hx μ, _, _, rfl, hy μ, _, _, rfl, hz μ, rfl⟩)
/-- A small int by its rest. -/
theorem in_cls {n m r : Int} (h0 : 0 ≤ n) (h1 : n ≤ 255) (hm : r < 0) (hm0 : 0 ≤ m) (h : n % m = r + m) (μ : Mu) : VR1 μ (.rng .u8 m r) (.int .u8 n) := ⟨n, rfl, fun e => by omega, fun _ => ⟨h0, h1, h⟩⟩
end Go.Sy
