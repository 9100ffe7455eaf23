/- Calls whose outcome is known beforehand: the evaluator takes it over and does not run them again. -/
import Derived.Test.YtbdhjclehikikabGreatDoorEvStart
namespace Go.Ev
open Go.RowKit
set_option linter.unusedVariables false
set_option linter.unusedSimpArgs false

noncomputable section
/-- The evaluator, with some calls known beforehand. -/
def callO (P : Program) (ov : Tgt → AV → Heap → Option CR) (fuel : Nat) (n : Nat) : Tgt → AV → Heap → CR :=
  Nat.rec (motive := fun _ => Tgt → AV → Heap → CR) (fun _ _ _ => .fail)
    (fun _ ih t as h => Option.casesOn (motive := fun _ => CR) (ov t as h) (Tgt.casesOn (motive := fun _ => CR) t (fun f => callFnA P f as h ih fuel) (fun id => roundA P id as h ih fuel)) (fun r => r)) n
end
variable {P : Program} {B0 : Nat}
/-- What is known beforehand is so. -/
def OvOK (P : Program) (B0 : Nat) (ov : Tgt → AV → Heap → Option CR) : Prop := CallOK P B0 (fun t as h => (ov t as h).getD .fail)

theorem callO_sound (hm : P.follows .mixedOrders = true) (hcl : Callable P) {ov : Tgt → AV → Heap → Option CR} (hov : OvOK P B0 ov) (fuel : Nat) : ∀ n, CallOK P B0 (callO P ov fuel n)
  | 0 => fun t as h v h' hc => by cases hc
  | n + 1 => fun t as h v h' hc μ w hr => by
    change (Option.casesOn (motive := fun _ => CR) (ov t as h) (Tgt.casesOn (motive := fun _ => CR) t (fun f => callFnA P f as h (callO P ov fuel n) fuel) (fun id => roundA P id as h (callO P ov fuel n) fuel)) (fun r => r)) = .ret v h' at hc
    cases ho : ov t as h with
    | some r =>
      rw [ho] at hc
      have hc : r = .ret v h' := hc
      exact hov t as h v h' (by show (ov t as h).getD CR.fail = _; rw [ho]; exact hc) μ w hr
    | none =>
      rw [ho] at hc
      cases t with
      | fn f => exact callFn_sound hm hcl (callO_sound hm hcl hov fuel n) hc hr
      | rd id => exact round_sound hm (callO_sound hm hcl hov fuel n) hc hr

/-- Nothing that was there has changed. -/
theorem HR.below {μ : Mu} {h : Heap} {w w' : World} (hr : HR μ B0 h w) (hb : Below w.heap.size w w') : HR μ B0 h w' :=
  ⟨hr.fresh, hr.live, fun id B o e1 e2 => (hr.obj id B o e1 e2).heap (hb.block _ (hr.obj id B o e1 e2).lt), hr.sep, hr.own, hr.glob, Nat.le_trans hr.size hb.size⟩
theorem Post.same {μ : Mu} {h : Heap} {w w' : World} (hr : HR μ B0 h w) (hb : Below w.heap.size w w') : Post μ B0 h w μ h w' :=
  ⟨fun _ _ => rfl, Nat.le_refl _, hr.below hb, hb.mono hr.size⟩

/-- WHAT A RUN SAYS, with some calls known beforehand. -/
theorem run_trueO (hm : P.follows .mixedOrders = true) (hcl : Callable P) {ov : Tgt → AV → Heap → Option CR} (hov : ∀ B0, OvOK P B0 ov) {l : List (AV × Nat)} {n fuel : Nat} {f : FuncId} {as : AV} (hrun : (callO P ov fuel n (.fn f) as (startWith l 64)).isTrue = true) (hlen : l.length ≤ 64)
    {w : World} (ht : TabOK w l) {cargs : Array Value} (hargs : ∀ μ, VRL μ as cargs.toList) : Calls P f cargs w fun e w' => e = .returned (.bool true) ∧ Below w.heap.size w w' := by
  obtain ⟨h', hc⟩ := isTrue_inv hrun
  have h := (callO_sound (B0 := w.heap.size) hm hcl (hov _) fuel n (.fn f) as _ _ h' hc (mu0 w) w (start_HR hlen ht)).2 cargs (hargs _)
  exact h.mono fun e w' ⟨cv, μ', he, hv, hp⟩ => by
    have : cv = .bool true := by simpa [VR] using hv
    exact ⟨by rw [he, this], hp.below⟩

noncomputable section
/-- A block holds the given integers. -/
def tabIs (k : IntKind) (c : Tr AV) (l : List Int) : Nat → Bool :=
  List.rec (motive := fun _ => Nat → Bool) (fun _ => true)
    (fun n _ ih i => Option.casesOn (motive := fun _ => Bool) (c.get (pathOf i)) false (fun v => match v with | .int k' m => band (band (keq k k') (decide (n = m))) (ih (Nat.succ i)) | _ => false)) l
def tab0In (k : IntKind) (l : List Int) (h : Heap) : Bool := Option.casesOn (motive := fun _ => Bool) (cellsAt h (pathOf 0)) false (fun q => band (band q.2.2 (Nat.beq q.2.1 l.length)) (tabIs k q.1 l 0))
end
theorem tabIs_spec {k : IntKind} {c : Tr AV} : ∀ (l : List Int) (i : Nat), tabIs k c l i = true → ∀ j n, l[j]? = some n → c.get (pathOf (i + j)) = some (.int k n)
  | [], i, h, j, n, hj => by simp at hj
  | m :: l, i, h, j, n, hj => by
    change (Option.casesOn (motive := fun _ => Bool) (c.get (pathOf i)) false (fun v => match v with | .int k' x => band (band (keq k k') (decide (m = x))) (tabIs k c l (Nat.succ i)) | _ => false)) = true at h
    cases hg : c.get (pathOf i) with
    | none => rw [hg] at h; cases h
    | some v =>
      rw [hg] at h
      cases v with
      | int k' x =>
        change band (band (keq k k') (decide (m = x))) (tabIs k c l (Nat.succ i)) = true at h
        obtain ⟨h1, h3⟩ := band_iff.1 h
        obtain ⟨h1, h2⟩ := band_iff.1 h1
        have h1 := keq_iff.1 h1
        have h2 := of_decide_eq_true h2
        subst h1; subst h2
        cases j with
        | zero => simp at hj; subst hj; exact hg
        | succ j =>
          have := tabIs_spec l (Nat.succ i) h3 j n (by simpa using hj)
          rwa [show i + (j + 1) = Nat.succ i + j by omega]
      | _ => cases h
theorem tab0_ok {k : IntKind} {l : List Int} {h : Heap} {μ : Mu} {w : World} (hr : HR μ B0 h w) (ht : tab0In k l h = true) : TabOK w [(intsAV k l, l.length)] := by
  unfold tab0In at ht
  cases hc : cellsAt h (pathOf 0) with
  | none => rw [hc] at ht; cases ht
  | some q =>
    rw [hc] at ht
    have ht : band (band q.2.2 (Nat.beq q.2.1 l.length)) (tabIs k q.1 l 0) = true := ht
    obtain ⟨ht, ht2⟩ := band_iff.1 ht
    obtain ⟨hro, hsz⟩ := band_iff.1 ht
    have hsz := Nat.eq_of_beq_eq_true hsz
    obtain ⟨n, hg⟩ := hr.glob 0 (by omega)
    obtain ⟨h0, c, el, fz, h1, h2, h3, h4⟩ := hr.obj _ _ _ hg (HR.cellsAt (μ := μ) (B0 := B0) (w := w) hc)
    intro i x hi
    cases i with
    | succ i => simp at hi
    | zero =>
      simp at hi
      subst hi
      refine ⟨c, el, fz, l.map (Value.int k), h1, h3.1, (h3.2 hro).trans hsz, fun μ => intsAV_sound k l μ, ?_⟩
      intro j v hj
      simp only [List.getElem?_map, Option.map_eq_some_iff] at hj
      obtain ⟨m, hm, rfl⟩ := hj
      have := tabIs_spec l 0 ht2 j m hm
      rw [Nat.zero_add] at this
      obtain ⟨_, cv, g1, g2⟩ := h4 j _ this
      have g2 : cv = .int k m := by simpa [VR] using g2
      rw [← g2]
      simpa using g1
end Go.Ev
