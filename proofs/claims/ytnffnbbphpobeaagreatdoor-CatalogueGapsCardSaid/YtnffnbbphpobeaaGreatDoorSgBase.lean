/- CatalogueGaps: the table of powers of ten; 'known' beforehand. -/
import Derived.Test.YtnffnbbphpobeaaGreatDoorSyDt
import Derived.Test.YtnffnbbphpobeaaGreatDoorSyLb
import Derived.Test.YtnffnbbphpobeaaGreatDoorSyMemo
namespace Go.Sy
open Go.RowKit Go.Proofs
set_option linter.unusedVariables false
set_option maxRecDepth 1000000
set_option maxHeartbeats 0
/-- The powers of ten. -/
def pow10 : List Int := [1, 10, 100, 1000, 10000, 100000, 1000000, 10000000, 100000000, 1000000000, 10000000000, 100000000000, 1000000000000, 10000000000000, 100000000000000, 1000000000000000, 10000000000000000, 100000000000000000, 1000000000000000000, 10000000000000000000]
noncomputable instance tb1 : Tabs := ⟨[(intsAV .u64 pow10, 20)]⟩
theorem known_true : (callN Tryz.prog 1000 30 (.fn 4) .nil (startWith Tabs.l 64)).isTrue = true := by decide +kernel
noncomputable section
/-- What is known beforehand: 'known' returns true. -/
def ovK (t : Tgt) (xs : AV) (h : Heap) : Option CR :=
  match t with
  | .fn f => Bool.casesOn (motive := fun _ => Option CR) (Nat.beq f 4) none
      (match xs with
       | .nil => Bool.casesOn (motive := fun _ => Option CR) (tab0In .u64 pow10 h) none (some (.ret (.bool true) h))
       | _ => none)
  | .rd _ => none
def ov0 : Tgt → AV → Heap → Option CR := ovD (dcTab ((d_IndexByte :: d_ParseU :: dcRat).map (Dc.lift tb1)))
end
theorem ov0_ok (B0 : Nat) : OvOK Tryz.prog B0 ov0 := ovD_ok p_callable _ B0
theorem ovK_ok (B0 : Nat) : OvOK Tryz.prog B0 ovK := by
  intro t xs h v h' hc μ w hr
  have hc : (ovK t xs h).getD .fail = .ret v h' := hc
  cases t with
  | rd id => cases hc
  | fn f =>
    simp only [ovK] at hc
    cases h4 : Nat.beq f 4 with
    | false => rw [h4] at hc; cases hc
    | true =>
      have hf := Nat.eq_of_beq_eq_true h4
      subst hf
      rw [h4] at hc
      cases xs with
      | nil =>
        simp only at hc
        cases ht : tab0In .u64 pow10 h with
        | false => rw [ht] at hc; cases hc
        | true =>
          rw [ht] at hc
          cases hc
          refine ⟨fun cargs => p_callable _ _ cargs w Tryz.func4 (by kernel_rfl), fun cargs hargs => ?_⟩
          have hnil : cargs = #[] := by
            have : cargs.toList = [] := hargs
            simpa using this
          subst hnil
          exact (run_true p_mixed p_callable known_true (by decide) (tab0_ok hr ht) (cargs := #[]) (fun _ => rfl)).mono fun e w' ⟨he, hb⟩ =>
            ⟨.bool true, μ, he, rfl, Post.same hr hb⟩
      | _ => cases hc
end Go.Sy
