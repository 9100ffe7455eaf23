/- BlockingGraphs: what the law returns, of arguments that lie in memory. -/
import Derived.Test.YtpbjekedjbjeeaaGreatDoorSyEa
import Derived.Test.YtpbjekedjbjeeaaGreatDoorSyEb
import Derived.Test.YtpbjekedjbjeeaaGreatDoorSyEk
namespace Go.Sy
open Go.RowKit Go.Proofs
set_option linter.unusedVariables false
set_option maxRecDepth 1000000
theorem SlTold.vr {W : World} {v : Value} {n : Nat} {a : AV} (h : SlTold W v n a) : VR1 (muS (sealBelow W (W.heap.size + 64))) (.ro n a) v := by
  rcases h with ⟨rfl, rfl, rfl⟩ | ⟨b, o, c, zs, rfl, hc, hz, hcell⟩
  · exact ⟨[], rfl, .inr ⟨rfl, rfl, rfl⟩⟩
  · refine ⟨zs, hz _, .inl ⟨b, o, c, rfl, hc, ?_⟩⟩
    cases zs with
    | nil => exact .inl rfl
    | cons z zs =>
      have h0 := hcell 0 z rfl
      unfold World.cell? at h0
      split at h0
      · rename_i arr el fz hg
        refine .inr ⟨arr, ?_, fun j x hj => ?_⟩
        · show sealBelow W (W.heap.size + 64) b = some arr
          have hlt := (Array.getElem?_eq_some_iff.1 hg).1
          have hlt : b < W.heap.size := hlt
          unfold sealBelow
          rw [if_pos (by omega)]
          have hg : W.heap[b]? = some (.cells arr el fz) := hg
          rw [hg]
        · have h1 := hcell j x hj
          unfold World.cell? at h1
          have hg : W.heap[b]? = some (.cells arr el fz) := hg
          simp only [hg] at h1
          simpa using h1
      · cases h0
attribute [local instance] tb1
/-- WHAT THE LAW DOES. -/
theorem told_all {W : World} (ht : TabOK W Tabs.l) {v0 v1 : Value} {s : List Int} {l : List Ar} (h0 : SlTold W v0 s.length ((eInt .i64).l s)) (h1 : SlTold W v1 l.length (eArc.l l)) :
    Calls Tryz.prog 3 #[v0, v1] W fun e w => e = .returned (.bool true) ∧ Below W.heap.size W w := by
  refine (c_law c_known21 s l (sealBelow W (W.heap.size + 64)) W (sealBelow_ok W (W.heap.size + 64)) (ht.shut (Nat.le_trans (by decide : (@Tabs.l tb1).length ≤ 64) (by omega))) #[v0, v1] ⟨v0, _, rfl, h0.vr, v1, [], rfl, h1.vr, rfl⟩).mono fun e w' h => ?_
  obtain ⟨cv, s', he, _, _, hv, hb⟩ := h
  have h3 : cv = .bool true := by simpa [VR] using hv
  exact ⟨by rw [he, h3], hb⟩
end Go.Sy
