/- CatalogueFacts: 'known' beforehand; a run of the law. -/
import Derived.Test.YtbdhjclehikikabGreatDoorEvOver
import Derived.Test.YtbdhjclehikikabGreatDoorProg
import Derived.KernelRfl
namespace Go.Ev
open Go.RowKit Go.Proofs
set_option linter.unusedVariables false
set_option maxRecDepth 1000000
set_option maxHeartbeats 0

theorem tryz_mixed : Tryz.prog.follows .mixedOrders = true := by kernel_rfl
theorem tryz_callable : Callable Tryz.prog := callable_of (by kernel_rfl)
/-- The powers of ten. -/
def pow10 : List Int := [1, 10, 100, 1000, 10000, 100000, 1000000, 10000000, 100000000, 1000000000, 10000000000, 100000000000, 1000000000000, 10000000000000, 100000000000000, 1000000000000000, 10000000000000000, 100000000000000000, 1000000000000000000, 10000000000000000000]
noncomputable def tabs : List (AV × Nat) := [(intsAV .u64 pow10, 20)]
theorem known_true : (callN Tryz.prog 1000 30 (.fn 4) .nil (startWith tabs 64)).isTrue = true := by decide +kernel

noncomputable section
/-- What is known beforehand: 'known' returns true. -/
def knownOv (t : Tgt) (xs : AV) (h : Heap) : Option CR :=
  match t with
  | .fn f => Bool.casesOn (motive := fun _ => Option CR) (Nat.beq f 4) none
      (match xs with
       | .nil => Bool.casesOn (motive := fun _ => Option CR) (tab0In .u64 pow10 h) none (some (.ret (.bool true) h))
       | _ => none)
  | .rd _ => none
/-- Three arguments. -/
def args3 (x y z : AV) : AV := .cons x (.cons y (.cons z .nil))
def chk (x y z : AV) : Bool := (callO Tryz.prog knownOv 1000 30 (.fn 3) (args3 x y z) (startWith tabs 64)).isTrue
end
theorem knownOv_ok (B0 : Nat) : OvOK Tryz.prog B0 knownOv := by
  intro t xs h v h' hc μ w hr
  have hc : (knownOv t xs h).getD .fail = .ret v h' := hc
  cases t with
  | rd id => cases hc
  | fn f =>
    simp only [knownOv] at hc
    cases h4 : Nat.beq f 4 with
    | false => rw [h4] at hc; cases hc
    | true =>
      have hf := Nat.eq_of_beq_eq_true h4
      subst hf
      rw [h4] at hc
      cases xs with
      | nil =>
        simp only at hc
        cases ht : tab0In .u64 pow10 h with
        | false => rw [ht] at hc; cases hc
        | true =>
          rw [ht] at hc
          cases hc
          refine ⟨fun cargs => tryz_callable 4 _ cargs w Tryz.func4 (by kernel_rfl), fun cargs hargs => ?_⟩
          have hnil : cargs = #[] := by
            have : cargs.toList = [] := hargs
            simpa using this
          subst hnil
          exact (run_true tryz_mixed tryz_callable known_true (by decide) (tab0_ok hr ht) (cargs := #[]) (fun _ => rfl)).mono fun e w' ⟨he, hb⟩ =>
            ⟨.bool true, μ, he, rfl, Post.same hr hb⟩
      | _ => cases hc

/-- What the law does. -/
def Told (W : World) (a b c : Int) : Prop := Calls Tryz.prog 3 #[.int .u8 a, .int .u8 b, .int .u8 c] W fun e w => e = .returned (.bool true) ∧ Below W.heap.size W w
theorem told_of {x y z : AV} (h : chk x y z = true) {a b c : Int} (hx : ∀ μ, VR1 μ x (.int .u8 a)) (hy : ∀ μ, VR1 μ y (.int .u8 b)) (hz : ∀ μ, VR1 μ z (.int .u8 c)) {W : World} (ht : TabOK W tabs) : Told W a b c :=
  run_trueO tryz_mixed tryz_callable knownOv_ok h (by decide) ht (fun μ => ⟨_, _, rfl, hx μ, _, _, rfl, hy μ, _, _, rfl, hz μ, rfl⟩)
/-- A small int by its rest. -/
theorem in_cls {n m r : Int} (h0 : 0 ≤ n) (h1 : n ≤ 255) (hm : r < 0) (hm0 : 0 ≤ m) (h : n % m = r + m) (μ : Mu) : VR1 μ (.rng .u8 m r) (.int .u8 n) := ⟨n, rfl, fun e => by omega, fun _ => ⟨h0, h1, h⟩⟩
theorem try_one : chk (.rng .u8 6 (-6)) (.rng .u8 5 (-5)) (.rng .u8 4 (-4)) = true := by decide +kernel
end Go.Ev
