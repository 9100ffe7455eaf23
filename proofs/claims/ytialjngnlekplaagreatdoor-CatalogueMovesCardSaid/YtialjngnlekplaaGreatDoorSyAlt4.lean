/- From a run's state to what is told of it: some slots, some variables, a map. -/
import Derived.Test.YtialjngnlekplaaGreatDoorSyZ
import Derived.Test.YtialjngnlekplaaGreatDoorSySub
namespace Go.Sy
open Go.RowKit
set_option linter.unusedVariables false
set_option linter.unusedSectionVars false
variable [Tabs]
variable {P : Program} {B0 : Nat}
theorem mem_regsT {k : Nat} {u : AV} : ∀ {R : List (Nat × AV)}, (regsT R).get (pathOf k) = some u → (k, u) ∈ R
  | [], h => by cases h
  | x :: R, h => by
    change (Tr.set x.2 (regsT R) (pathOf x.1)).get (pathOf k) = some u at h
    rw [Tr.get_set] at h
    by_cases he : pathOf k = pathOf x.1
    · rw [if_pos he] at h
      cases h
      rw [pathOf_inj he]
      exact List.mem_cons_self
    · rw [if_neg he] at h
      exact List.mem_cons_of_mem _ (mem_regsT h)
theorem mem_heapT {q : Pos} {o : AO} : ∀ {H : List (Pos × AO)}, (heapT H).get q = some o → (q, o) ∈ H
  | [], h => by cases h
  | x :: H, h => by
    change (Tr.set x.2 (heapT H) x.1).get q = some o at h
    rw [Tr.get_set] at h
    by_cases he : q = x.1
    · rw [if_pos he] at h
      cases h
      rw [he]
      exact List.mem_cons_self
    · rw [if_neg he] at h
      exact List.mem_cons_of_mem _ (mem_heapT h)
/-- Less is said of a block. -/
def LessO (o p : AO) : Prop := o = p ∨ ∃ t n R, o = .cells t n false ∧ p = .cells (regsT R) n false ∧ ∀ x ∈ R, t.get (pathOf x.1) = some x.2
/-- SOME SLOTS, SOME BLOCKS. -/
theorem Sub.facts {nt : Nat} {s : St} {R : List (Nat × AV)} {H : List (Pos × AO)} {n' : Pos} (hm : s.m = []) (hn : s.h.n.toNat ≤ n'.toNat) (hR : ∀ x ∈ R, s.r.get (pathOf x.1) = some x.2) (hH : ∀ x ∈ H, ∃ o, s.h.t.get x.1 = some o ∧ LessO o x.2) :
    Sub B0 nt s.r s.m s.h (regsT R) [] ⟨heapT H, n'⟩ := by
  intro μ w a hr ha
  refine ⟨μ, Grow.refl _ _, HR.lessA hr _ n' hn (fun q p e => ?_), ⟨fun k u hk => ha.rr k u (hR (k, u) (mem_regsT hk)), ha.size, by have := ha.dr; rw [hm] at this; exact this⟩⟩
  obtain ⟨o, h1, h2⟩ := hH (q, p) (mem_heapT e)
  refine ⟨o, h1, ?_⟩
  rcases h2 with rfl | ⟨t, n, L, rfl, hp, hL⟩
  · exact ⟨fun B h => h, rfl, fun B h => h⟩
  · have hp : p = .cells (regsT L) n false := hp
    subst hp
    refine ⟨fun B hB => ?_, rfl, fun B hB => absurd hB not_inert_cells⟩
    obtain ⟨h0, c, el, fz, g1, g2, g3, g4⟩ := hB
    exact ⟨h0, c, el, fz, g1, g2, g3, fun k v e => g4 k v (hL (k, v) (mem_regsT e))⟩
end Go.Sy
