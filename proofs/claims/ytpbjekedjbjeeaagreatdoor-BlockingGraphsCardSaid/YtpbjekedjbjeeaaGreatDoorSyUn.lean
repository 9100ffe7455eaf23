/- A loop of few rounds, round by round. -/
import Derived.Test.YtpbjekedjbjeeaaGreatDoorSyBig
namespace Go.Sy
open Go.RowKit
set_option linter.unusedVariables false
set_option linter.unusedSectionVars false
variable [Tabs] {P : Program} {B0 : Nat} {cx : Cx}
/-- What has to be told of a loop of at most n rounds. -/
noncomputable def LW (P : Program) (B0 : Nat) (cx : Cx) (body : Code) (Q : R → Prop) : Nat → KC
  | 0, _, _, _ => False
  | n + 1, r, m, h => wp P B0 cx body (fun r m h => LW P B0 cx body Q n r m h) (fun r m h => Q (.ret r m h)) (fun i r m h => Q (.exit i r m h)) r m h
theorem LW_key (hm : P.follows .mixedOrders = true) (hP : cx.P = P) (hrd : cx.rd = none) (hcall : CallOK P B0 cx.call) {body : Code} {Q : R → Prop} : ∀ (n : Nat) {r : Tr AV} {m : List Pos} {h : Heap}, LW P B0 cx body Q n r m h →
    ∀ (μ : Mu) (w : World) (b : Frame) (a : Act) (kk : List Item) (cs : List Frame), HR μ B0 h w → AR μ cx.nt r m a → FR0 cx b → ∃ x, Q x ∧ RW P B0 μ h.n w cx.nt b kk cs (lone (b.atR a (.code body :: .inLoop body :: kk)) cs w) x
  | 0, r, m, h, e => e.elim
  | n + 1, r, m, h, e => by
    intro μ w b a kk cs hr ha hf
    obtain ⟨z, h1, h2⟩ := wp_sound hm hP hrd hcall body e μ w b a (.inLoop body :: kk) cs hr ha hf
    cases z with
    | fail => exact h2.elim
    | ok r1 m1 h1' =>
      obtain ⟨μ1, a1, w1, hp, ha1, hs1⟩ := h2
      obtain ⟨x, e1, e2⟩ := LW_key hm hP hrd hcall n h1 μ1 w1 b a1 kk cs hp.rel ha1 hf
      exact ⟨x, e1, e2.ahead (hs1.trans (.one stepR_inLoop)) hp.below hp.seals⟩
    | exit i r1 m1 h1' =>
      obtain ⟨μ1, a1, w1, hp, ha1, k', he, hs1⟩ := h2
      exact ⟨.exit i r1 m1 h1', h1, μ1, a1, w1, hp, ha1, k', he, hs1⟩
    | ret r1 m1 h1' =>
      obtain ⟨μ1, a1, w1, hp, ha1, k', hs1⟩ := h2
      exact ⟨.ret r1 m1 h1', h1, μ1, a1, w1, hp, ha1, k', hs1⟩
theorem Cw.unroll (hm : P.follows .mixedOrders = true) (hP : cx.P = P) (hrd : cx.rd = none) (hcall : CallOK P B0 cx.call) (n : Nat) {body : Code} {Q : R → Prop} {r : Tr AV} {m : List Pos} {h : Heap} (hl : LW P B0 cx body Q n r m h) : Cw P B0 cx (.loop body) r m h Q := by
  intro μ w b a kk cs hr ha hf
  obtain ⟨z, h1, h2⟩ := LW_key hm hP hrd hcall n hl μ w b a kk cs hr ha hf
  exact ⟨z, h1, h2.ahead (.one stepR_loop) (Below.refl _ _) (GrowK.refl _ _ _)⟩
end Go.Sy
